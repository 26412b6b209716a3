/- The reference: memory,layout. The reference: numbers. The reference: machines. Plain safety: what it means that an answer is there; numbers; the leaf functions always answer. The machines of the reference,said plainly: what a line does with the memory,the records,the events and its frame. No program occurs here. -/
import Derived.Test.YtjjbdbbmdhncjaaGreatSzai
set_option linter.all false
namespace Go.Proofs.YtjjbdbbmdhncjaaGreat
section
open Go Go.RowKit
set_option maxRecDepth 100000
variable [Tb]
noncomputable def aEY (m:MemV) (a:Int):Option ((Bool×Unit)×(MemV×Unit)) :=
 if 0≤a then
  some ((decide (a<((m.cells.length:Nat):Int)),()),(m,()))
 else
 some ((false,()),(m,()))
noncomputable abbrev aAz:Con SR1:=⟨84,[.ref 9,.sh sI_],[.sh .b],fun x =>aEY x.1 x.2.1⟩
theorem aBH:CO Tryz.prog aAz:=abc abb Tryz.func84 [] trivial [] trivial (fun _ =>[]) [] fun x =>by kernel_rfl
noncomputable def aaZ (m:MemV) (kind:Int) (a:Int) (v:Int) (w:Int):Option ((Int×Bool×Unit)×(MemV×Unit)) :=
 (aEY m a).bind fun r1 =>
 if (!r1.1.1)=true then
  some ((0,false,()),(r1.2.1,()))
 else
 if 0≤a∧a<((r1.2.1.cells.length:Nat):Int) then
  if kind=2 then
   if 0≤a∧a<((r1.2.1.cells.length:Nat):Int) then
   some ((aeG r1.2.1.cells a,true,()),((⟨r1.2.1.cells.set a.toNat v,⟨kind,a,aeG r1.2.1.cells a,v⟩,wi (r1.2.1.count+1)⟩:MemV),()))
   else none
  else
  if kind=3 then
   if (aeG r1.2.1.cells a)=v then
   if 0≤a∧a<((r1.2.1.cells.length:Nat):Int) then
   some ((aeG r1.2.1.cells a,decide ((aeG r1.2.1.cells a)=v),()),((⟨r1.2.1.cells.set a.toNat w,⟨kind,a,aeG r1.2.1.cells a,w⟩,wi (r1.2.1.count+1)⟩:MemV),()))
   else none
   else
   if 0≤a∧a<((r1.2.1.cells.length:Nat):Int) then
   some ((aeG r1.2.1.cells a,decide ((aeG r1.2.1.cells a)=v),()),((⟨r1.2.1.cells.set a.toNat (aeG r1.2.1.cells a),⟨kind,a,aeG r1.2.1.cells a,aeG r1.2.1.cells a⟩,wi (r1.2.1.count+1)⟩:MemV),()))
   else none
  else
  if kind=4 then
   if 0≤a∧a<((r1.2.1.cells.length:Nat):Int) then
   some ((aeG r1.2.1.cells a,true,()),((⟨r1.2.1.cells.set a.toNat (orU (aeG r1.2.1.cells a) v),⟨kind,a,aeG r1.2.1.cells a,orU (aeG r1.2.1.cells a) v⟩,wi (r1.2.1.count+1)⟩:MemV),()))
   else none
  else
  if kind=5 then
   if 0≤a∧a<((r1.2.1.cells.length:Nat):Int) then
   some ((aeG r1.2.1.cells a,true,()),((⟨r1.2.1.cells.set a.toNat (aFL (aeG r1.2.1.cells a) v),⟨kind,a,aeG r1.2.1.cells a,aFL (aeG r1.2.1.cells a) v⟩,wi (r1.2.1.count+1)⟩:MemV),()))
   else none
  else
  if kind=6 then
   if 0≤a∧a<((r1.2.1.cells.length:Nat):Int) then
   some ((aeG r1.2.1.cells a,true,()),((⟨r1.2.1.cells.set a.toNat (wu ((aeG r1.2.1.cells a)+v)),⟨kind,a,aeG r1.2.1.cells a,wu ((aeG r1.2.1.cells a)+v)⟩,wi (r1.2.1.count+1)⟩:MemV),()))
   else none
  else
  if 0≤a∧a<((r1.2.1.cells.length:Nat):Int) then
   some ((aeG r1.2.1.cells a,true,()),((⟨r1.2.1.cells.set a.toNat (aeG r1.2.1.cells a),⟨kind,a,aeG r1.2.1.cells a,aeG r1.2.1.cells a⟩,wi (r1.2.1.count+1)⟩:MemV),()))
  else none
 else none
noncomputable abbrev ac7:Con SR1:=⟨41,[.ref 9,.sh sI_,.sh sI_,.sh sU_,.sh sU_],[.sh sU_,.sh .b],fun x =>aaZ x.1 x.2.1 x.2.2.1 x.2.2.2.1 x.2.2.2.2.1⟩
theorem acG:CO Tryz.prog ac7:=abc abb Tryz.func41 [aAz] ⟨aBH,trivial⟩ [] trivial (fun _ =>[]) [] fun x =>by kernel_rfl
noncomputable def ahq (a:Int) (b:Int) (c:Int) (d:Int):Option ((Int×Unit)×(Unit)) :=
 if b<0 then
  some (((-1),()),())
 else
 if c≤b then
  some (((-1),()),())
 else
 some ((wi (a+(wi (b*d))),()),())
noncomputable abbrev af5:Con SR1:=⟨123,[.sh sI_,.sh sI_,.sh sI_,.sh sI_],[.sh sI_],fun x =>ahq x.1 x.2.1 x.2.2.1 x.2.2.2.1⟩
theorem af4:CO Tryz.prog af5:=abc abb Tryz.func123 [] trivial [] trivial (fun _ =>[]) [] fun x =>by kernel_rfl
noncomputable def ajd (c:Cfg):Option ((Int×Unit)×(Unit)) :=
 some ((wi ((wi ((wi (4+c.heap))+c.classes))+(wi (2*c.workers))),()),())
noncomputable abbrev ahX:Con SR1:=⟨110,[.val 13],[.sh sI_],fun x =>ajd x.1⟩
theorem aiz:CO Tryz.prog ahX:=abc abb Tryz.func110 [] trivial [] trivial (fun _ =>[]) [] fun x =>by kernel_rfl
noncomputable def aes (c:Cfg) (a:Int) (b:Int):Option ((QV×Unit)×(Unit)) :=
 if a<0 then
  some (((⟨(-1),(-1),(-1),0⟩:QV),()),())
 else
 if c.workers≤a then
  some (((⟨(-1),(-1),(-1),0⟩:QV),()),())
 else
 if b<0 then
  some (((⟨(-1),(-1),(-1),0⟩:QV),()),())
 else
 if c.levels≤b then
  some (((⟨(-1),(-1),(-1),0⟩:QV),()),())
 else
 (ajd c).bind fun r1 =>
 if c.deque=c.deque then
  if c.levels=c.levels then
   some (((⟨wi (r1.1.1+(wi ((wi ((wi (a*c.levels))+b))*(wi (2+c.deque))))),wi ((wi (r1.1.1+(wi ((wi ((wi (a*c.levels))+b))*(wi (2+c.deque))))))+1),wi ((wi (r1.1.1+(wi ((wi ((wi (a*c.levels))+b))*(wi (2+c.deque))))))+2),c.deque⟩:QV),()),())
  else none
 else none
noncomputable abbrev ajc:Con SR1:=⟨68,[.val 13,.sh sI_,.sh sI_],[.val 14],fun x =>aes x.1 x.2.1 x.2.2.1⟩
theorem ajV:CO Tryz.prog ajc:=abc abb Tryz.func68 [ahX] ⟨aiz,trivial⟩ [] trivial (fun _ =>[]) [] fun x =>by kernel_rfl
noncomputable def akw (c:Cfg) (a:Int) (b:Int):Option ((Int×Unit)×(Unit)) :=
 (ajd c).bind fun r1 =>
 if c.tasks=c.tasks then
  if c.deque=c.deque then
   if c.levels=c.levels then
   if c.workers=c.workers then
   (ahq (wi (r1.1.1+(wi ((wi (c.workers*c.levels))*(wi (2+c.deque)))))) a c.tasks 5).bind fun r2 =>
   if r2.1.1<0 then
   some (((-1),()),())
   else
   some ((wi (r2.1.1+b),()),())
   else none
   else none
  else none
 else none
noncomputable abbrev ahW:Con SR1:=⟨76,[.val 13,.sh sI_,.sh sI_],[.sh sI_],fun x =>akw x.1 x.2.1 x.2.2.1⟩
theorem ahn:CO Tryz.prog ahW:=abc abb Tryz.func76 [ahX,af5] ⟨aiz,af4,trivial⟩ [] trivial (fun _ =>[]) [] fun x =>by kernel_rfl
noncomputable def agX (c:Cfg) (a:Int):Option ((Int×Unit)×(Unit)) :=
 (ahq 4 a c.heap 1).bind fun r1 =>
 some ((r1.1.1,()),())
noncomputable abbrev aoe:Con SR1:=⟨128,[.val 13,.sh sI_],[.sh sI_],fun x =>agX x.1 x.2.1⟩
theorem apW:CO Tryz.prog aoe:=abc abb Tryz.func128 [af5] ⟨af4,trivial⟩ [] trivial (fun _ =>[]) [] fun x =>by kernel_rfl
noncomputable def ac6 (c:Cfg) (a:Int):Option ((Int×Unit)×(Unit)) :=
 (akw c a 0).bind fun r1 =>
 some ((r1.1.1,()),())
noncomputable abbrev adR:Con SR1:=⟨33,[.val 13,.sh sI_],[.sh sI_],fun x =>ac6 x.1 x.2.1⟩
theorem adC:CO Tryz.prog adR:=abc abb Tryz.func33 [ahW] ⟨ahn,trivial⟩ [] trivial (fun _ =>[]) [] fun x =>by kernel_rfl
noncomputable def aee (c:Cfg) (a:Int):Option ((Int×Unit)×(Unit)) :=
 (akw c a 1).bind fun r1 =>
 some ((r1.1.1,()),())
noncomputable abbrev afm:Con SR1:=⟨131,[.val 13,.sh sI_],[.sh sI_],fun x =>aee x.1 x.2.1⟩
theorem afc:CO Tryz.prog afm:=abc abb Tryz.func131 [ahW] ⟨ahn,trivial⟩ [] trivial (fun _ =>[]) [] fun x =>by kernel_rfl
noncomputable def adD (c:Cfg) (a:Int):Option ((Int×Unit)×(Unit)) :=
 (ahq (wi ((wi ((wi (4+c.heap))+c.classes))+c.workers)) a c.workers 1).bind fun r1 =>
 some ((r1.1.1,()),())
noncomputable abbrev afd:Con SR1:=⟨138,[.val 13,.sh sI_],[.sh sI_],fun x =>adD x.1 x.2.1⟩
theorem afn:CO Tryz.prog afd:=abc abb Tryz.func138 [af5] ⟨af4,trivial⟩ [] trivial (fun _ =>[]) [] fun x =>by kernel_rfl
noncomputable def aiB (c:Cfg):Option ((Int×Unit)×(Unit)) :=
 (ajd c).bind fun r1 =>
 if c.tasks=c.tasks then
  if c.deque=c.deque then
   if c.levels=c.levels then
   if c.workers=c.workers then
   some ((wi ((wi (r1.1.1+(wi ((wi (c.workers*c.levels))*(wi (2+c.deque))))))+(wi (5*c.tasks))),()),())
   else none
   else none
  else none
 else none
noncomputable abbrev alE:Con SR1:=⟨65,[.val 13],[.sh sI_],fun x =>aiB x.1⟩
theorem anc:CO Tryz.prog alE:=abc abb Tryz.func65 [ahX] ⟨aiz,trivial⟩ [] trivial (fun _ =>[]) [] fun x =>by kernel_rfl
noncomputable def afS (c:Cfg) (a:Int):Option ((Int×Unit)×(Unit)) :=
 (akw c a 4).bind fun r1 =>
 some ((r1.1.1,()),())
noncomputable abbrev ajb:Con SR1:=⟨196,[.val 13,.sh sI_],[.sh sI_],fun x =>afS x.1 x.2.1⟩
theorem ajU:CO Tryz.prog ajb:=abc abb Tryz.func196 [ahW] ⟨ahn,trivial⟩ [] trivial (fun _ =>[]) [] fun x =>by kernel_rfl
noncomputable def aiy (c:Cfg) (a:Int):Option ((Int×Unit)×(Unit)) :=
 (akw c a 3).bind fun r1 =>
 some ((r1.1.1,()),())
noncomputable abbrev alC:Con SR1:=⟨197,[.val 13,.sh sI_],[.sh sI_],fun x =>aiy x.1 x.2.1⟩
theorem am9:CO Tryz.prog alC:=abc abb Tryz.func197 [ahW] ⟨ahn,trivial⟩ [] trivial (fun _ =>[]) [] fun x =>by kernel_rfl
noncomputable def afb (c:Cfg) (a:Int):Option ((Int×Unit)×(Unit)) :=
 (ahq (wi (4+c.heap)) a c.classes 1).bind fun r1 =>
 some ((r1.1.1,()),())
noncomputable abbrev ahp:Con SR1:=⟨198,[.val 13,.sh sI_],[.sh sI_],fun x =>afb x.1 x.2.1⟩
theorem aja:CO Tryz.prog ahp:=abc abb Tryz.func198 [af5] ⟨af4,trivial⟩ [] trivial (fun _ =>[]) [] fun x =>by kernel_rfl
noncomputable def ajW (c:Cfg) (a:Int):Option ((Int×Unit)×(Unit)) :=
 (ahq (wi ((wi (4+c.heap))+c.classes)) a c.workers 1).bind fun r1 =>
 some ((r1.1.1,()),())
noncomputable abbrev alD:Con SR1:=⟨199,[.val 13,.sh sI_],[.sh sI_],fun x =>ajW x.1 x.2.1⟩
theorem anb:CO Tryz.prog alD:=abc abb Tryz.func199 [af5] ⟨af4,trivial⟩ [] trivial (fun _ =>[]) [] fun x =>by kernel_rfl
noncomputable def ana (c:Cfg) (a:Int):Option ((Int×Unit)×(Unit)) :=
 (akw c a 2).bind fun r1 =>
 some ((r1.1.1,()),())
noncomputable abbrev aof:Con SR1:=⟨204,[.val 13,.sh sI_],[.sh sI_],fun x =>ana x.1 x.2.1⟩
theorem apX:CO Tryz.prog aof:=abc abb Tryz.func204 [ahW] ⟨ahn,trivial⟩ [] trivial (fun _ =>[]) [] fun x =>by kernel_rfl
noncomputable def afo (a:Int):Option ((Int×Unit)×(Unit)) :=
 (lpF (σ:=Int×Int×Unit) (β:=Int×Int×Unit) (fun self3 x1 =>
  if 0<x1.1 then
   self3 (wi (x1.1-1),wu (x1.2.1*2),())
  else
  some (x1.1,x1.2.1,())
 ) 18446744073709551616 (a,1,())).bind fun z2 =>
 some ((z2.2.1,()),())
noncomputable abbrev ahs:Con SR1:=⟨185,[.sh sI_],[.sh sU_],fun x =>afo x.1⟩
theorem ahZ:CO Tryz.prog ahs:=abc abb Tryz.func185 [] trivial [] trivial (fun _ =>[]) [(2,.loop [.rg 0 sI_,.rg 3 sU_] 18446744073709551616 0)] fun x =>by kernel_rfl
noncomputable def ap1 (a:Int) (b:Int):Option ((Bool×Unit)×(Unit)) :=
 if 0≤b then
  if b<64 then
   (afo b).bind fun r1 =>
   if r1.1.1≠0 then
   some ((decide ((Int.tmod (wu (Int.tdiv a r1.1.1)) 2)=1),()),())
   else none
  else
  some ((false,()),())
 else
 some ((false,()),())
noncomputable abbrev aoj:Con SR1:=⟨189,[.sh sU_,.sh sI_],[.sh .b],fun x =>ap1 x.1 x.2.1⟩
theorem aoi:CO Tryz.prog aoj:=abc abb Tryz.func189 [ahs] ⟨ahZ,trivial⟩ [] trivial (fun _ =>[]) [] fun x =>by kernel_rfl
noncomputable def as1 (a:Int) (b:Int) (c:Int):Option ((Int×Bool×Unit)×(Unit)) :=
 if a<0 then
  some ((0,false,()),())
 else
 if 16777215<a then
  some ((0,false,()),())
 else
 if b<0 then
  some ((0,false,()),())
 else
 if 16777215<b then
  some ((0,false,()),())
 else
 if c<0 then
  some ((0,false,()),())
 else
 if 65535<c then
  some ((0,false,()),())
 else
 (afo 24).bind fun r1 =>
 (afo 16).bind fun r2 =>
 some ((wu ((wu ((wu ((wu ((wu (a))*r1.1.1))+(wu (b))))*r2.1.1))+(wu (c))),true,()),())
noncomputable abbrev as0:Con SR1:=⟨190,[.sh sI_,.sh sI_,.sh sI_],[.sh sU_,.sh .b],fun x =>as1 x.1 x.2.1 x.2.2.1⟩
theorem awf:CO Tryz.prog as0:=abc abb Tryz.func190 [ahs] ⟨ahZ,trivial⟩ [] trivial (fun _ =>[]) [] fun x =>by kernel_rfl
noncomputable def ak1 (a:Int):Option ((Int×Int×Int×Unit)×(Unit)) :=
 (afo 40).bind fun r1 =>
 if r1.1.1≠0 then
  (afo 16).bind fun r2 =>
  if r2.1.1≠0 then
   (afo 24).bind fun r3 =>
   if r3.1.1≠0 then
   (afo 16).bind fun r4 =>
   if r4.1.1≠0 then
   some ((wi (wu (Int.tdiv a r1.1.1)),wi ((Int.tmod (wu (Int.tdiv a r2.1.1)) r3.1.1)),wi ((Int.tmod a r4.1.1)),()),())
   else none
   else none
  else none
 else none
noncomputable abbrev anh:Con SR1:=⟨130,[.sh sU_],[.sh sI_,.sh sI_,.sh sI_],fun x =>ak1 x.1⟩
theorem arA:CO Tryz.prog anh:=abc abb Tryz.func130 [ahs] ⟨ahZ,trivial⟩ [] trivial (fun _ =>[]) [] fun x =>by kernel_rfl
noncomputable def ajh (a:Int):Option ((Int×Unit)×(Unit)) :=
 if a<0 then
  some ((0,()),())
 else
 if 63<a then
  some ((0,()),())
 else
 (afo a).bind fun r1 =>
 some ((r1.1.1,()),())
noncomputable abbrev ajg:Con SR1:=⟨148,[.sh sI_],[.sh sU_],fun x =>ajh x.1⟩
theorem ajf:CO Tryz.prog ajg:=abc abb Tryz.func148 [ahs] ⟨ahZ,trivial⟩ [] trivial (fun _ =>[]) [] fun x =>by kernel_rfl
noncomputable def akx (a:Int):Option ((Int×Unit)×(Unit)) :=
 (lpF (σ:=Int×Unit) (β:=(Int×Unit)⊕((Int×Unit)×(Unit))) (fun self3 x1 =>
  if 0≤x1.1 then
   (ap1 a x1.1).bind fun r4 =>
   if r4.1.1=true then
   Option.map Sum.inr (
   some ((x1.1,()),())
   )
   else
   self3 (wi (x1.1-1),())
  else
  some (Sum.inl (x1.1,()))
 ) 18446744073709551616 (63,())).bind fun z2 =>match z2 with
 | .inr o5 =>some o5
 | .inl z2 =>
 some (((-1),()),())
noncomputable abbrev aog:Con SR1:=⟨152,[.sh sU_],[.sh sI_],fun x =>akx x.1⟩
theorem apZ:CO Tryz.prog aog:=abc abb Tryz.func152 [aoj] ⟨aoi,trivial⟩ [] trivial (fun _ =>[]) [(2,.loopR [.rg 3 sI_] 18446744073709551616 0)] fun x =>by kernel_rfl
noncomputable def ay4 (a:Int) (b:Int):Option ((Int×Unit)×(Unit)) :=
 (lpF (σ:=Int×Int×Unit) (β:=(Int×Int×Unit)⊕((Int×Unit)×(Unit))) (fun self3 x1 =>
  if x1.2.1<64 then
   (ap1 a x1.2.1).bind fun r4 =>
   if (!r4.1.1)=true then
   self3 (x1.1,wi (x1.2.1+1),())
   else
   if x1.1=0 then
   Option.map Sum.inr (
   some ((x1.2.1,()),())
   )
   else
   self3 (wi (x1.1-1),wi (x1.2.1+1),())
  else
  some (Sum.inl (x1.1,x1.2.1,()))
 ) 18446744073709551616 (b,0,())).bind fun z2 =>match z2 with
 | .inr o5 =>some o5
 | .inl z2 =>
 some (((-1),()),())
noncomputable abbrev awg:Con SR1:=⟨210,[.sh sU_,.sh sI_],[.sh sI_],fun x =>ay4 x.1 x.2.1⟩
theorem ay3:CO Tryz.prog awg:=abc abb Tryz.func210 [aoj] ⟨aoi,trivial⟩ [] trivial (fun _ =>[]) [(2,.loopR [.rg 1 sI_,.rg 5 sI_] 18446744073709551616 0)] fun x =>by kernel_rfl
noncomputable def ay6 (a:Int):Option ((Int×Unit)×(Unit)) :=
 (ay4 a 0).bind fun r1 =>
 some ((r1.1.1,()),())
noncomputable abbrev awh:Con SR1:=⟨201,[.sh sU_],[.sh sI_],fun x =>ay6 x.1⟩
theorem ay5:CO Tryz.prog awh:=abc abb Tryz.func201 [awg] ⟨ay3,trivial⟩ [] trivial (fun _ =>[]) [] fun x =>by kernel_rfl
noncomputable def aoh (a:Int) (b:Int) (c:Int):Option ((Int×Unit)×(Unit)) :=
 if b<1 then
  some ((0,()),())
 else
 if 64<b then
  some ((0,()),())
 else
 if a<0 then
  some ((0,()),())
 else
 if b≤a then
  some ((0,()),())
 else
 if c<1 then
  some ((0,()),())
 else
 if 8<c then
  some ((0,()),())
 else
 if b≠0 then
  some ((wi (Int.tdiv (wi (a*c)) b),()),())
 else none
noncomputable abbrev ap0:Con SR1:=⟨200,[.sh sI_,.sh sI_,.sh sI_],[.sh sI_],fun x =>aoh x.1 x.2.1 x.2.2.1⟩
theorem auw:CO Tryz.prog ap0:=abc abb Tryz.func200 [] trivial [] trivial (fun _ =>[]) [] fun x =>by kernel_rfl
abbrev tpF (f:FrV):Int:=au9 f.l (wi (((f.l.length:Nat):Int)-1))
abbrev trR (e:EnvV) (f:FrV):RecV:=abH e.recs (tpF f)
abbrev tsR (e:EnvV) (f:FrV):List RecV:=ws7 e.recs (tpF f)
abbrev tuR (e:EnvV) (f:FrV):RecV:=abH (tsR e f) (tpF f)
noncomputable def aje (a:Int) (b:Int):Option ((Int×Unit)×(Unit)) :=
 if b<1 then
  some ((0,()),())
 else
 if b≠0 then
  if (Int.tmod a b)<0 then
   if b≠0 then
   some ((wi ((Int.tmod a b)+b),()),())
   else none
  else
  if b≠0 then
   some (((Int.tmod a b),()),())
  else none
 else none
noncomputable abbrev ahY:Con SR1:=⟨24,[.sh sI_,.sh sI_],[.sh sI_],fun x =>aje x.1 x.2.1⟩
theorem ahr:CO Tryz.prog ahY:=abc abb Tryz.func24 [] trivial [] trivial (fun _ =>[]) [] fun x =>by kernel_rfl
noncomputable def awb (a:Int):Option ((MemV×Unit)×(Unit)) :=
 if (if 0<(if 131072<a then 131072 else a) then (if 131072<a then 131072 else a) else 0)=(if 0<(if 131072<a then 131072 else a) then (if 131072<a then 131072 else a) else 0) then
  if 0≤(if 0<(if 131072<a then 131072 else a) then (if 131072<a then 131072 else a) else 0)∧(if 0<(if 131072<a then 131072 else a) then (if 131072<a then 131072 else a) else 0)≤1099511627776 then
   some (((⟨List.replicate ((if 0<(if 131072<a then 131072 else a) then (if 131072<a then 131072 else a) else 0):Int).toNat (0:Int),⟨0,0,0,0⟩,0⟩:MemV),()),())
  else none
 else none
noncomputable abbrev awa:Con SR1:=⟨64,[.sh sI_],[.val 9],fun x =>awb x.1⟩
theorem ay0:CO Tryz.prog awa:=abc abb Tryz.func64 [] trivial [] trivial (fun _ =>[]) [] fun x =>by kernel_rfl
noncomputable def agt (a:Int) (b:Int):Option ((RecV×Unit)×(Unit)) :=
 some (((⟨a,b,0,0,(-1),[],false⟩:RecV),()),())
noncomputable abbrev ai6:Con SR1:=⟨66,[.sh sI_,.sh sI_],[.val 7],fun x =>agt x.1 x.2.1⟩
theorem ajT:CO Tryz.prog ai6:=abc abb Tryz.func66 [] trivial [] trivial (fun _ =>[]) [] fun x =>by kernel_rfl
noncomputable def auk (cf:Cfg):Option ((EnvV×Unit)×(Unit)) :=
 (aiB cf).bind fun r1 =>
 if cf.workers=cf.workers then
  if cf.levels=cf.levels then
   if cf.classes=cf.classes then
   if cf.tasks=cf.tasks then
   if cf.deque=cf.deque then
   if cf.heap=cf.heap then
   if cf.batch=cf.batch then
   if cf.age=cf.age then
   if cf.patience=cf.patience then
   (awb r1.1.1).bind fun r2 =>
   if cf.workers=cf.workers then
   if cf.levels=cf.levels then
   if cf.classes=cf.classes then
   if cf.tasks=cf.tasks then
   if cf.deque=cf.deque then
   if cf.heap=cf.heap then
   if cf.batch=cf.batch then
   if cf.age=cf.age then
   if cf.patience=cf.patience then
   (lpF (σ:=Int×EnvV×Unit) (β:=Int×EnvV×Unit) (fun self5 x3 =>
   if x3.1<cf.tasks then
   (agt 0 (-1)).bind fun r6 =>
   if (((x3.2.1.recs.length+([r6.1.1]:List RecV).length:Nat)):Int)<100000000000 then
   self5 (wi (x3.1+1),({ x3.2.1 with recs:=x3.2.1.recs++([r6.1.1]) }:EnvV),())
   else none
   else
   some (x3.1,x3.2.1,())
   ) 18446744073709551616 (0,(⟨cf,r2.1.1,0,0,[],[]⟩:EnvV),())).bind fun z4 =>
   some ((z4.2.1,()),())
   else none
   else none
   else none
   else none
   else none
   else none
   else none
   else none
   else none
   else none
   else none
   else none
   else none
   else none
   else none
   else none
  else none
 else none
noncomputable abbrev av4:Con SR1:=⟨25,[.val 13],[.sh (.own 12)],fun x =>auk x.1⟩
theorem ayY:CO Tryz.prog av4:=abc abb Tryz.func25 [alE,awa,ai6] ⟨anc,ay0,ajT,trivial⟩ [] trivial (fun _ =>[]) [(3,.loop [.rg 4 sI_,.rg 3 (.own 12)] 18446744073709551616 0)] fun x =>by kernel_rfl
noncomputable def ai4 (f:FrV):Option ((MaV×Unit)×(Unit)) :=
 if f.kind=22 then
  some (((⟨[({ f with line:=1,d:=(-1) }:FrV)],false,0,0⟩:MaV),()),())
 else
 some (((⟨[({ f with line:=1 }:FrV)],false,0,0⟩:MaV),()),())
noncomputable abbrev asU:Con SR1:=⟨26,[.val 8],[.sh (.own 11)],fun x =>ai4 x.1⟩
theorem av5:CO Tryz.prog asU:=abc abb Tryz.func26 [] trivial [] trivial (fun _ =>[]) [] fun x =>by kernel_rfl
noncomputable def afA (f:FrV):Option ((FrV×Bool×Unit)×(FrV×Unit)) :=
 if f.line=2 then
  some (((⟨8,0,⟨0,0,0,0⟩,f.a,0,0,0,0,0,0,0,0,0,0,[]⟩:FrV),true,()),(f,()))
 else
 if f.line=3 then
  some (((⟨11,0,⟨0,0,0,0⟩,f.a,0,0,0,0,0,0,0,0,0,0,[]⟩:FrV),true,()),(f,()))
 else
 if f.line=5 then
  some (((⟨5,0,⟨0,0,0,0⟩,f.a,f.t,f.n,0,0,0,0,0,0,0,0,[]⟩:FrV),true,()),(f,()))
 else
 if f.line=6 then
  some (((⟨9,0,⟨0,0,0,0⟩,0,0,0,0,0,0,0,0,0,0,0,[]⟩:FrV),true,()),(f,()))
 else
 if f.line=7 then
  some (((⟨20,0,⟨0,0,0,0⟩,f.a,f.j,0,0,0,0,0,0,0,0,0,[]⟩:FrV),true,()),(f,()))
 else
 some (((⟨0,0,⟨0,0,0,0⟩,0,0,0,0,0,0,0,0,0,0,0,[]⟩:FrV),false,()),(f,()))
noncomputable abbrev aim:Con SR1:=⟨140,[.ref 8],[.val 8,.sh .b],fun x =>afA x.1⟩
theorem aly:CO Tryz.prog aim:=abc abb Tryz.func140 [] trivial [] trivial (fun _ =>[]) [] fun x =>by kernel_rfl
noncomputable def akY (e:EnvV) (f:FrV):Option ((Unit)×(EnvV×FrV×Unit)) :=
 if f.line≠1 then
  some ((()),(e,f,()))
 else
 if 0≤wi (((f.l.length:Nat):Int)-1)∧wi (((f.l.length:Nat):Int)-1)<((f.l.length:Nat):Int) then
  if 0≤(tpF f) then
   if (tpF f)<e.c.tasks then
   if ¬ ((tpF f)<((e.recs.length:Nat):Int)) then
   some ((()),(e,({ f with line:=23 }:FrV),()))
   else
   if 0≤(tpF f)∧(tpF f)<((e.recs.length:Nat):Int) then
   if 0≤(tpF f)∧(tpF f)<(((e.recs.set (tpF f).toNat (trR e f)).length:Nat):Int) then
   if ((abH (e.recs.set (tpF f).toNat (trR e f)) (tpF f)).prog)<0 then
   if ((trR e f).waiting)≠(-1) then
   some ((()),(({ e with recs:=e.recs.set (tpF f).toNat (trR e f) }:EnvV),({ f with line:=2 }:FrV),()))
   else
   if ((trR e f).pc)<0 then
   some ((()),(({ e with recs:=e.recs.set (tpF f).toNat (trR e f) }:EnvV),({ f with line:=17 }:FrV),()))
   else
   if 0≤((trR e f).pc) then
   some ((()),(({ e with recs:=e.recs.set (tpF f).toNat (trR e f) }:EnvV),({ f with line:=17 }:FrV),()))
   else
   none
   else
   if ((e.c.progs.length:Nat):Int)≤((abH (e.recs.set (tpF f).toNat (trR e f)) (tpF f)).prog) then
   if ((trR e f).waiting)≠(-1) then
   some ((()),(({ e with recs:=e.recs.set (tpF f).toNat (trR e f) }:EnvV),({ f with line:=2 }:FrV),()))
   else
   if ((trR e f).pc)<0 then
   some ((()),(({ e with recs:=e.recs.set (tpF f).toNat (trR e f) }:EnvV),({ f with line:=17 }:FrV),()))
   else
   if 0≤((trR e f).pc) then
   some ((()),(({ e with recs:=e.recs.set (tpF f).toNat (trR e f) }:EnvV),({ f with line:=17 }:FrV),()))
   else
   none
   else
   if 0≤(abH (e.recs.set (tpF f).toNat (trR e f)) (tpF f)).prog∧(abH (e.recs.set (tpF f).toNat (trR e f)) (tpF f)).prog<((e.c.progs.length:Nat):Int) then
   if ((trR e f).waiting)≠(-1) then
   some ((()),(({ e with recs:=e.recs.set (tpF f).toNat (trR e f) }:EnvV),({ f with line:=2 }:FrV),()))
   else
   if ((trR e f).pc)<0 then
   some ((()),(({ e with recs:=e.recs.set (tpF f).toNat (trR e f) }:EnvV),({ f with line:=17 }:FrV),()))
   else
   if (((atL [] e.c.progs ((abH (e.recs.set (tpF f).toNat (trR e f)) (tpF f)).prog)).length:Nat):Int)≤((trR e f).pc) then
   some ((()),(({ e with recs:=e.recs.set (tpF f).toNat (trR e f) }:EnvV),({ f with line:=17 }:FrV),()))
   else
   if 0≤(trR e f).pc∧(trR e f).pc<(((atL [] e.c.progs ((abH (e.recs.set (tpF f).toNat (trR e f)) (tpF f)).prog)).length:Nat):Int) then
   if ((afW (atL [] e.c.progs ((abH (e.recs.set (tpF f).toNat (trR e f)) (tpF f)).prog)) ((trR e f).pc)).op)=0 then
   some ((()),(({ e with recs:=e.recs.set (tpF f).toNat (trR e f) }:EnvV),({ f with line:=3 }:FrV),()))
   else
   if 0≤(trR e f).pc∧(trR e f).pc<(((atL [] e.c.progs ((abH (e.recs.set (tpF f).toNat (trR e f)) (tpF f)).prog)).length:Nat):Int) then
   if ((afW (atL [] e.c.progs ((abH (e.recs.set (tpF f).toNat (trR e f)) (tpF f)).prog)) ((trR e f).pc)).op)=1 then
   some ((()),(({ e with recs:=e.recs.set (tpF f).toNat (trR e f) }:EnvV),({ f with line:=5 }:FrV),()))
   else
   if 0≤(trR e f).pc∧(trR e f).pc<(((atL [] e.c.progs ((abH (e.recs.set (tpF f).toNat (trR e f)) (tpF f)).prog)).length:Nat):Int) then
   if ((afW (atL [] e.c.progs ((abH (e.recs.set (tpF f).toNat (trR e f)) (tpF f)).prog)) ((trR e f).pc)).a)<((((trR e f).kids).length:Nat):Int) then
   if 0≤(trR e f).pc∧(trR e f).pc<(((atL [] e.c.progs ((abH (e.recs.set (tpF f).toNat (trR e f)) (tpF f)).prog)).length:Nat):Int) then
   if 0≤(afW (atL [] e.c.progs ((abH (e.recs.set (tpF f).toNat (trR e f)) (tpF f)).prog)) ((trR e f).pc)).a∧(afW (atL [] e.c.progs ((abH (e.recs.set (tpF f).toNat (trR e f)) (tpF f)).prog)) ((trR e f).pc)).a<((((trR e f).kids).length:Nat):Int) then
   if (au9 ((trR e f).kids) ((afW (atL [] e.c.progs ((abH (e.recs.set (tpF f).toNat (trR e f)) (tpF f)).prog)) ((trR e f).pc)).a))≠(-1) then
   if 0≤(trR e f).pc∧(trR e f).pc<(((atL [] e.c.progs ((abH (e.recs.set (tpF f).toNat (trR e f)) (tpF f)).prog)).length:Nat):Int) then
   if 0≤(afW (atL [] e.c.progs ((abH (e.recs.set (tpF f).toNat (trR e f)) (tpF f)).prog)) ((trR e f).pc)).a∧(afW (atL [] e.c.progs ((abH (e.recs.set (tpF f).toNat (trR e f)) (tpF f)).prog)) ((trR e f).pc)).a<((((trR e f).kids).length:Nat):Int) then
   some ((()),(({ e with recs:=e.recs.set (tpF f).toNat (trR e f) }:EnvV),({ f with line:=10,j:=au9 ((trR e f).kids) ((afW (atL [] e.c.progs ((abH (e.recs.set (tpF f).toNat (trR e f)) (tpF f)).prog)) ((trR e f).pc)).a) }:FrV),()))
   else none
   else none
   else
   some ((()),(({ e with recs:=e.recs.set (tpF f).toNat (trR e f) }:EnvV),({ f with line:=4 }:FrV),()))
   else none
   else none
   else
   some ((()),(({ e with recs:=e.recs.set (tpF f).toNat (trR e f) }:EnvV),({ f with line:=4 }:FrV),()))
   else none
   else none
   else none
   else none
   else none
   else none
   else
   some ((()),(e,({ f with line:=23 }:FrV),()))
  else
  some ((()),(e,({ f with line:=23 }:FrV),()))
 else none
noncomputable abbrev am7:Con SR1:=⟨186,[.ref 12,.ref 8],[],fun x =>akY x.1 x.2.1⟩
noncomputable def arv:List (Nat×Func):=[(202,Tryz.f202),(139,Tryz.f139),(203,Tryz.f203)]
theorem arw:CO Tryz.prog am7:=abc abb Tryz.func186 [] trivial arv ⟨Tryz.func202,Tryz.func139,Tryz.func203,trivial⟩ (fun _ =>[]) [] fun x =>by kernel_rfl
noncomputable def ahS (e:EnvV) (f:FrV):Option ((FrV×Bool×Unit)×(EnvV×FrV×Unit)) :=
 (akY e f).bind fun r1 =>
 if r1.2.2.1.line=5 then
  some (((⟨12,0,⟨0,0,0,0⟩,0,0,0,0,0,0,0,0,0,0,0,[]⟩:FrV),true,()),(r1.2.1,r1.2.2.1,()))
 else
 if r1.2.2.1.line=6 then
  some (((⟨13,0,⟨0,0,0,0⟩,r1.2.2.1.n,r1.2.2.1.d,0,0,0,0,0,0,0,0,0,[]⟩:FrV),true,()),(r1.2.1,r1.2.2.1,()))
 else
 if r1.2.2.1.line=7 then
  some (((⟨5,0,⟨0,0,0,0⟩,r1.2.2.1.a,r1.2.2.1.d,r1.2.2.1.n,0,0,0,0,0,0,0,0,[]⟩:FrV),true,()),(r1.2.1,r1.2.2.1,()))
 else
 if r1.2.2.1.line=8 then
  some (((⟨20,0,⟨0,0,0,0⟩,r1.2.2.1.a,r1.2.2.1.d,0,0,0,0,0,0,0,0,0,[]⟩:FrV),true,()),(r1.2.1,r1.2.2.1,()))
 else
 if r1.2.2.1.line=9 then
  if r1.2.2.1.line=9 then
   some (((⟨14,0,⟨0,0,0,0⟩,r1.2.2.1.a,r1.2.2.1.n,0,0,0,0,0,0,0,0,0,[]⟩:FrV),true,()),(r1.2.1,r1.2.2.1,()))
  else
  if r1.2.2.1.line=14 then
   some (((⟨17,0,⟨0,0,0,0⟩,r1.2.2.1.a,r1.2.2.1.j,r1.2.2.1.t,0,0,0,0,0,0,0,0,[]⟩:FrV),true,()),(r1.2.1,r1.2.2.1,()))
  else
  if r1.2.2.1.line=20 then
   some (((⟨15,0,⟨0,0,0,0⟩,r1.2.2.1.a,r1.2.2.1.n,0,0,0,0,0,0,0,0,0,[]⟩:FrV),true,()),(r1.2.1,r1.2.2.1,()))
  else
  if r1.2.2.1.line=21 then
   some (((⟨20,0,⟨0,0,0,0⟩,r1.2.2.1.a,r1.2.2.1.t,0,0,0,0,0,0,0,0,0,[]⟩:FrV),true,()),(r1.2.1,r1.2.2.1,()))
  else
  some (((⟨0,0,⟨0,0,0,0⟩,0,0,0,0,0,0,0,0,0,0,0,[]⟩:FrV),false,()),(r1.2.1,r1.2.2.1,()))
 else
 if r1.2.2.1.line=22 then
  some (((⟨14,0,⟨0,0,0,0⟩,r1.2.2.1.a,r1.2.2.1.n,0,0,0,0,0,0,0,0,0,[]⟩:FrV),true,()),(r1.2.1,r1.2.2.1,()))
 else
 if r1.2.2.1.line=14 then
  some (((⟨17,0,⟨0,0,0,0⟩,r1.2.2.1.a,r1.2.2.1.j,r1.2.2.1.t,0,0,0,0,0,0,0,0,[]⟩:FrV),true,()),(r1.2.1,r1.2.2.1,()))
 else
 if r1.2.2.1.line=20 then
  some (((⟨15,0,⟨0,0,0,0⟩,r1.2.2.1.a,r1.2.2.1.n,0,0,0,0,0,0,0,0,0,[]⟩:FrV),true,()),(r1.2.1,r1.2.2.1,()))
 else
 if r1.2.2.1.line=21 then
  some (((⟨20,0,⟨0,0,0,0⟩,r1.2.2.1.a,r1.2.2.1.t,0,0,0,0,0,0,0,0,0,[]⟩:FrV),true,()),(r1.2.1,r1.2.2.1,()))
 else
 some (((⟨0,0,⟨0,0,0,0⟩,0,0,0,0,0,0,0,0,0,0,0,[]⟩:FrV),false,()),(r1.2.1,r1.2.2.1,()))
noncomputable abbrev aks:Con SR1:=⟨141,[.ref 12,.ref 8],[.val 8,.sh .b],fun x =>ahS x.1 x.2.1⟩
theorem an7:CO Tryz.prog aks:=abc abb Tryz.func141 [am7] ⟨arw,trivial⟩ [] trivial (fun _ =>[]) [] fun x =>by kernel_rfl
noncomputable def ahR (a:Int) (b:Int):Option ((FrV×Unit)×(Unit)) :=
 some (((⟨24,0,⟨0,0,0,0⟩,a,b,0,0,0,0,0,0,0,0,0,[b]⟩:FrV),()),())
noncomputable abbrev akr:Con SR1:=⟨187,[.sh sI_,.sh sI_],[.val 8],fun x =>ahR x.1 x.2.1⟩
theorem an6:CO Tryz.prog akr:=abc abb Tryz.func187 [] trivial [] trivial (fun _ =>[]) [] fun x =>by kernel_rfl
noncomputable def ae6 (e:EnvV) (f:FrV):Option ((FrV×Bool×Unit)×(EnvV×FrV×Unit)) :=
 if f.line=1 then
  if e.c.age=0 then
   some (((⟨23,0,⟨0,0,0,0⟩,f.a,0,0,0,0,0,0,0,0,0,0,[]⟩:FrV),true,()),(e,({ f with line:=2 }:FrV),()))
  else
  if f.line=1 then
   some (((⟨18,0,⟨0,0,0,0⟩,f.a,f.j,0,0,0,0,0,0,0,0,0,[]⟩:FrV),true,()),(e,f,()))
  else
  if f.line=2 then
   some (((⟨23,0,⟨0,0,0,0⟩,f.a,0,0,0,0,0,0,0,0,0,0,[]⟩:FrV),true,()),(e,f,()))
  else
  if f.line=3 then
   some (((⟨22,0,⟨0,0,0,0⟩,f.a,0,(-1),0,0,0,0,0,0,0,0,[]⟩:FrV),true,()),(e,f,()))
  else
  if f.line=4 then
   some (((⟨21,0,⟨0,0,0,0⟩,f.a,0,0,0,0,0,0,0,0,0,0,[]⟩:FrV),true,()),(e,f,()))
  else
  if f.line=5 then
   (aes e.c f.i f.d).bind fun r1 =>
   some (((⟨2,0,r1.1.1,0,0,0,0,0,0,0,0,0,0,0,[]⟩:FrV),true,()),(e,f,()))
  else
  if f.line=6 then
   some (((⟨14,0,⟨0,0,0,0⟩,f.a,f.n,0,0,0,0,0,0,0,0,0,[]⟩:FrV),true,()),(e,f,()))
  else
  if f.line=7 then
   (ahR f.a f.n).bind fun r2 =>
   some ((r2.1.1,true,()),(e,f,()))
  else
  if f.line=8 then
   some (((⟨19,0,⟨0,0,0,0⟩,f.a,0,0,0,0,0,0,0,0,0,0,[]⟩:FrV),true,()),(e,f,()))
  else
  (adD e.c f.i).bind fun r3 =>
  if f.d=f.d then
   if f.i=f.i then
   if e.c.workers=e.c.workers then
   if e.c.levels=e.c.levels then
   if e.c.classes=e.c.classes then
   if e.c.tasks=e.c.tasks then
   if e.c.deque=e.c.deque then
   if e.c.heap=e.c.heap then
   if e.c.batch=e.c.batch then
   if e.c.age=e.c.age then
   if e.c.patience=e.c.patience then
   if f.d=f.d then
   (aes e.c f.i f.d).bind fun r4 =>
   if f.d=f.d then
   some (((⟨4,0,r4.1.1,r3.1.1,f.d,0,0,0,0,0,0,0,0,0,[]⟩:FrV),true,()),(e,f,()))
   else none
   else none
   else none
   else none
   else none
   else none
   else none
   else none
   else none
   else none
   else none
   else none
  else none
 else
 if f.line=1 then
  some (((⟨18,0,⟨0,0,0,0⟩,f.a,f.j,0,0,0,0,0,0,0,0,0,[]⟩:FrV),true,()),(e,f,()))
 else
 if f.line=2 then
  some (((⟨23,0,⟨0,0,0,0⟩,f.a,0,0,0,0,0,0,0,0,0,0,[]⟩:FrV),true,()),(e,f,()))
 else
 if f.line=3 then
  some (((⟨22,0,⟨0,0,0,0⟩,f.a,0,(-1),0,0,0,0,0,0,0,0,[]⟩:FrV),true,()),(e,f,()))
 else
 if f.line=4 then
  some (((⟨21,0,⟨0,0,0,0⟩,f.a,0,0,0,0,0,0,0,0,0,0,[]⟩:FrV),true,()),(e,f,()))
 else
 if f.line=5 then
  (aes e.c f.i f.d).bind fun r5 =>
  some (((⟨2,0,r5.1.1,0,0,0,0,0,0,0,0,0,0,0,[]⟩:FrV),true,()),(e,f,()))
 else
 if f.line=6 then
  some (((⟨14,0,⟨0,0,0,0⟩,f.a,f.n,0,0,0,0,0,0,0,0,0,[]⟩:FrV),true,()),(e,f,()))
 else
 if f.line=7 then
  (ahR f.a f.n).bind fun r6 =>
  some ((r6.1.1,true,()),(e,f,()))
 else
 if f.line=8 then
  some (((⟨19,0,⟨0,0,0,0⟩,f.a,0,0,0,0,0,0,0,0,0,0,[]⟩:FrV),true,()),(e,f,()))
 else
 (adD e.c f.i).bind fun r7 =>
 if f.d=f.d then
  if f.i=f.i then
   if e.c.workers=e.c.workers then
   if e.c.levels=e.c.levels then
   if e.c.classes=e.c.classes then
   if e.c.tasks=e.c.tasks then
   if e.c.deque=e.c.deque then
   if e.c.heap=e.c.heap then
   if e.c.batch=e.c.batch then
   if e.c.age=e.c.age then
   if e.c.patience=e.c.patience then
   if f.d=f.d then
   (aes e.c f.i f.d).bind fun r8 =>
   if f.d=f.d then
   some (((⟨4,0,r8.1.1,r7.1.1,f.d,0,0,0,0,0,0,0,0,0,[]⟩:FrV),true,()),(e,f,()))
   else none
   else none
   else none
   else none
   else none
   else none
   else none
   else none
   else none
   else none
   else none
  else none
 else none
noncomputable abbrev ahl:Con SR1:=⟨142,[.ref 12,.ref 8],[.val 8,.sh .b],fun x =>ae6 x.1 x.2.1⟩
theorem akN:CO Tryz.prog ahl:=abc abb Tryz.func142 [ajc,akr,afd] ⟨ajV,an6,afn,trivial⟩ [] trivial (fun _ =>[]) [] fun x =>by kernel_rfl
noncomputable def ae7 (e:EnvV) (f:FrV):Option ((FrV×Bool×Unit)×(EnvV×FrV×Unit)) :=
 if ((e.c.subs.length:Nat):Int)≤f.i then
  some (((⟨0,0,⟨0,0,0,0⟩,0,0,0,0,0,0,0,0,0,0,0,[]⟩:FrV),false,()),(e,f,()))
 else
 if 0≤f.i∧f.i<((e.c.subs.length:Nat):Int) then
  if ((akM e.c.subs f.i).prog)=((akM e.c.subs f.i).prog) then
   if ((akM e.c.subs f.i).level)=((akM e.c.subs f.i).level) then
   if ((akM e.c.subs f.i).deadline)=((akM e.c.subs f.i).deadline) then
   if f.i=f.i then
   if f.line=1 then
   some (((⟨7,0,⟨0,0,0,0⟩,e.c.workers,0,0,0,0,0,0,0,0,0,0,[]⟩:FrV),true,()),(e,f,()))
   else
   if f.line=3 then
   some (((⟨12,0,⟨0,0,0,0⟩,0,0,0,0,0,0,0,0,0,0,0,[]⟩:FrV),true,()),(e,f,()))
   else
   if f.line=6 then
   some (((⟨10,0,⟨0,0,0,0⟩,(akM e.c.subs f.i).deadline,f.n,0,0,0,0,0,0,0,0,0,[]⟩:FrV),true,()),(e,f,()))
   else
   if f.line=8 then
   some (((⟨9,0,⟨0,0,0,0⟩,0,0,0,0,0,0,0,0,0,0,0,[]⟩:FrV),true,()),(e,f,()))
   else
   if f.line=9 then
   some (((⟨20,0,⟨0,0,0,0⟩,e.c.workers,(akM e.c.subs f.i).level,0,0,0,0,0,0,0,0,0,[]⟩:FrV),true,()),(e,f,()))
   else
   some (((⟨0,0,⟨0,0,0,0⟩,0,0,0,0,0,0,0,0,0,0,0,[]⟩:FrV),false,()),(e,f,()))
   else none
   else none
   else none
  else none
 else none
noncomputable abbrev ahm:Con SR1:=⟨143,[.ref 12,.ref 8],[.val 8,.sh .b],fun x =>ae7 x.1 x.2.1⟩
theorem akO:CO Tryz.prog ahm:=abc abb Tryz.func143 [] trivial [] trivial (fun _ =>[]) [] fun x =>by kernel_rfl
noncomputable def aix (e:EnvV) (f:FrV):Option ((FrV×Bool×Unit)×(EnvV×FrV×Unit)) :=
 if f.kind=5 then
  if f.line=1 then
   (aes e.c f.a f.b).bind fun r1 =>
   if f.d=f.d then
   some (((⟨0,0,r1.1.1,f.d,0,0,0,0,0,0,0,0,0,0,[]⟩:FrV),true,()),(e,f,()))
   else none
  else
  (adD e.c f.a).bind fun r2 =>
  if f.b=f.b then
   some (((⟨3,0,⟨0,0,0,0⟩,r2.1.1,f.b,0,0,0,0,0,0,0,0,0,[]⟩:FrV),true,()),(e,f,()))
  else none
 else
 if f.kind=6 then
  if f.line=2 then
   (aes e.c f.a f.i).bind fun r3 =>
   some (((⟨1,0,r3.1.1,0,0,0,0,0,0,0,0,0,0,0,[]⟩:FrV),true,()),(e,f,()))
  else
  if f.line=3 then
   (adD e.c f.a).bind fun r4 =>
   if f.i=f.i then
   if f.a=f.a then
   if e.c.workers=e.c.workers then
   if e.c.levels=e.c.levels then
   if e.c.classes=e.c.classes then
   if e.c.tasks=e.c.tasks then
   if e.c.deque=e.c.deque then
   if e.c.heap=e.c.heap then
   if e.c.batch=e.c.batch then
   if e.c.age=e.c.age then
   if e.c.patience=e.c.patience then
   if f.i=f.i then
   (aes e.c f.a f.i).bind fun r5 =>
   if f.i=f.i then
   some (((⟨4,0,r5.1.1,r4.1.1,f.i,0,0,0,0,0,0,0,0,0,[]⟩:FrV),true,()),(e,f,()))
   else none
   else none
   else none
   else none
   else none
   else none
   else none
   else none
   else none
   else none
   else none
   else none
   else none
  else
  some (((⟨0,0,⟨0,0,0,0⟩,0,0,0,0,0,0,0,0,0,0,0,[]⟩:FrV),false,()),(e,f,()))
 else
 if f.kind=15 then
  if f.line=4 then
   some (((⟨5,0,⟨0,0,0,0⟩,f.a,f.t,f.b,0,0,0,0,0,0,0,0,[]⟩:FrV),true,()),(e,f,()))
  else
  some (((⟨0,0,⟨0,0,0,0⟩,0,0,0,0,0,0,0,0,0,0,0,[]⟩:FrV),false,()),(e,f,()))
 else
 if f.kind=17 then
  if f.line=1 then
   if 0≤f.b then
   if f.b<e.c.tasks then
   if f.b<((e.recs.length:Nat):Int) then
   if 0≤f.d then
   if f.d<e.c.levels then
   some ((({ f with kind:=16,line:=0,q:=⟨0,0,0,0⟩,i:=0,j:=0,n:=0,t:=0,u:=0,v:=0,w:=0,x:=0,l:=[] }:FrV),true,()),(e,f,()))
   else
   if f.line=3 then
   some (((⟨5,0,⟨0,0,0,0⟩,f.a,f.d,f.b,0,0,0,0,0,0,0,0,[]⟩:FrV),true,()),(e,f,()))
   else
   some (((⟨0,0,⟨0,0,0,0⟩,0,0,0,0,0,0,0,0,0,0,0,[]⟩:FrV),false,()),(e,f,()))
   else
   if f.line=3 then
   some (((⟨5,0,⟨0,0,0,0⟩,f.a,f.d,f.b,0,0,0,0,0,0,0,0,[]⟩:FrV),true,()),(e,f,()))
   else
   some (((⟨0,0,⟨0,0,0,0⟩,0,0,0,0,0,0,0,0,0,0,0,[]⟩:FrV),false,()),(e,f,()))
   else
   if f.line=3 then
   some (((⟨5,0,⟨0,0,0,0⟩,f.a,f.d,f.b,0,0,0,0,0,0,0,0,[]⟩:FrV),true,()),(e,f,()))
   else
   some (((⟨0,0,⟨0,0,0,0⟩,0,0,0,0,0,0,0,0,0,0,0,[]⟩:FrV),false,()),(e,f,()))
   else
   if f.line=3 then
   some (((⟨5,0,⟨0,0,0,0⟩,f.a,f.d,f.b,0,0,0,0,0,0,0,0,[]⟩:FrV),true,()),(e,f,()))
   else
   some (((⟨0,0,⟨0,0,0,0⟩,0,0,0,0,0,0,0,0,0,0,0,[]⟩:FrV),false,()),(e,f,()))
   else
   if f.line=3 then
   some (((⟨5,0,⟨0,0,0,0⟩,f.a,f.d,f.b,0,0,0,0,0,0,0,0,[]⟩:FrV),true,()),(e,f,()))
   else
   some (((⟨0,0,⟨0,0,0,0⟩,0,0,0,0,0,0,0,0,0,0,0,[]⟩:FrV),false,()),(e,f,()))
  else
  if f.line=3 then
   some (((⟨5,0,⟨0,0,0,0⟩,f.a,f.d,f.b,0,0,0,0,0,0,0,0,[]⟩:FrV),true,()),(e,f,()))
  else
  some (((⟨0,0,⟨0,0,0,0⟩,0,0,0,0,0,0,0,0,0,0,0,[]⟩:FrV),false,()),(e,f,()))
 else
 if f.kind=18 then
  if f.line=6 then
   some (((⟨5,0,⟨0,0,0,0⟩,f.a,f.t,f.b,0,0,0,0,0,0,0,0,[]⟩:FrV),true,()),(e,f,()))
  else
  some (((⟨0,0,⟨0,0,0,0⟩,0,0,0,0,0,0,0,0,0,0,0,[]⟩:FrV),false,()),(e,f,()))
 else
 if f.kind=22 then
  (afA f).bind fun r6 =>
  some ((r6.1.1,r6.1.2.1,()),(e,r6.2.1,()))
 else
 if f.kind=23 then
  if f.line=1 then
   some (((⟨6,0,⟨0,0,0,0⟩,f.a,0,0,0,0,0,0,0,0,0,0,[]⟩:FrV),true,()),(e,f,()))
  else
  some (((⟨14,0,⟨0,0,0,0⟩,f.a,f.n,0,0,0,0,0,0,0,0,0,[]⟩:FrV),true,()),(e,f,()))
 else
 if f.kind=24 then
  (ahS e f).bind fun r7 =>
  some ((r7.1.1,r7.1.2.1,()),(r7.2.1,r7.2.2.1,()))
 else
 if f.kind=25 then
  (ae6 e f).bind fun r8 =>
  some ((r8.1.1,r8.1.2.1,()),(r8.2.1,r8.2.2.1,()))
 else
 if f.kind=26 then
  (ae7 e f).bind fun r9 =>
  some ((r9.1.1,r9.1.2.1,()),(r9.2.1,r9.2.2.1,()))
 else
 some (((⟨0,0,⟨0,0,0,0⟩,0,0,0,0,0,0,0,0,0,0,0,[]⟩:FrV),false,()),(e,f,()))
noncomputable abbrev apQ:Con SR1:=⟨111,[.ref 12,.ref 8],[.val 8,.sh .b],fun x =>aix x.1 x.2.1⟩
noncomputable def aum:List (Nat×Func):=[(139,Tryz.f139)]
theorem aun:CO Tryz.prog apQ:=abc abb Tryz.func111 [ajc,afd,aim,aks,ahl,ahm] ⟨ajV,afn,aly,an7,akN,akO,trivial⟩ aum ⟨Tryz.func139,trivial⟩ (fun _ =>[]) [] fun x =>by kernel_rfl
noncomputable def asT (e:EnvV) (f:FrV):Option ((ResV×Unit)×(EnvV×FrV×Unit)) :=
 if f.line=1 then
  (aaZ e.m 1 f.q.bottom 0 0).bind fun r1 =>
  some (((⟨false,0,0⟩:ResV),()),(({ e with m:=r1.2.1 }:EnvV),({ f with line:=wi (f.line+1),u:=r1.1.1 }:FrV),()))
 else
 if f.line=2 then
  (aaZ e.m 1 f.q.top 0 0).bind fun r2 =>
  if f.q.cap=f.q.cap then
   if f.q.cap≤(wi (wu (f.u-r2.1.1))) then
   some (((⟨true,3,0⟩:ResV),()),(({ e with m:=r2.2.1 }:EnvV),({ f with v:=r2.1.1 }:FrV),()))
   else
   some (((⟨false,0,0⟩:ResV),()),(({ e with m:=r2.2.1 }:EnvV),({ f with line:=wi (f.line+1),v:=r2.1.1 }:FrV),()))
  else none
 else
 if f.line=3 then
  if f.q.cap<1 then
   if f.a=f.a then
   (aaZ e.m 2 (-1) (wu (f.a)) 0).bind fun r3 =>
   some (((⟨false,0,0⟩:ResV),()),(({ e with m:=r3.2.1 }:EnvV),({ f with line:=wi (f.line+1) }:FrV),()))
   else none
  else
  if (wu (f.q.cap))≠0 then
   if f.a=f.a then
   (aaZ e.m 2 (wi (f.q.ring+(wi ((Int.tmod f.u (wu (f.q.cap))))))) (wu (f.a)) 0).bind fun r4 =>
   some (((⟨false,0,0⟩:ResV),()),(({ e with m:=r4.2.1 }:EnvV),({ f with line:=wi (f.line+1) }:FrV),()))
   else none
  else none
 else
 (aaZ e.m 2 f.q.bottom (wu (f.u+1)) 0).bind fun r5 =>
 some (((⟨true,0,0⟩:ResV),()),(({ e with m:=r5.2.1 }:EnvV),f,()))
noncomputable abbrev asS:Con SR1:=⟨144,[.ref 12,.ref 8],[.val 10],fun x =>asT x.1 x.2.1⟩
noncomputable def av0:List (Nat×Func):=[(151,Tryz.f151),(69,Tryz.f69),(149,Tryz.f149),(70,Tryz.f70),(154,Tryz.f154)]
theorem av1:CO Tryz.prog asS:=abc abb Tryz.func144 [ac7] ⟨acG,trivial⟩ av0 ⟨Tryz.func151,Tryz.func69,Tryz.func149,Tryz.func70,Tryz.func154,trivial⟩ (fun _ =>[]) [] fun x =>by kernel_rfl
noncomputable def ayX (e:EnvV) (f:FrV):Option ((ResV×Unit)×(EnvV×FrV×Unit)) :=
 if f.line=1 then
  (aaZ e.m 1 f.q.bottom 0 0).bind fun r1 =>
  some (((⟨false,0,0⟩:ResV),()),(({ e with m:=r1.2.1 }:EnvV),({ f with line:=wi (f.line+1),u:=r1.1.1 }:FrV),()))
 else
 if f.line=2 then
  (aaZ e.m 1 f.q.top 0 0).bind fun r2 =>
  if (wi (wu (f.u-r2.1.1)))≤0 then
   some (((⟨true,2,0⟩:ResV),()),(({ e with m:=r2.2.1 }:EnvV),({ f with v:=r2.1.1 }:FrV),()))
  else
  some (((⟨false,0,0⟩:ResV),()),(({ e with m:=r2.2.1 }:EnvV),({ f with line:=wi (f.line+1),v:=r2.1.1 }:FrV),()))
 else
 if f.line=3 then
  (aaZ e.m 2 f.q.bottom (wu (f.u-1)) 0).bind fun r3 =>
  some (((⟨false,0,0⟩:ResV),()),(({ e with m:=r3.2.1 }:EnvV),({ f with line:=wi (f.line+1) }:FrV),()))
 else
 if f.line=4 then
  (aaZ e.m 1 f.q.top 0 0).bind fun r4 =>
  if (wi (wu ((wu (f.u-1))-r4.1.1)))=0 then
   some (((⟨false,0,0⟩:ResV),()),(({ e with m:=r4.2.1 }:EnvV),({ f with line:=6,v:=r4.1.1 }:FrV),()))
  else
  if (wi (wu ((wu (f.u-1))-r4.1.1)))<0 then
   some (((⟨false,0,0⟩:ResV),()),(({ e with m:=r4.2.1 }:EnvV),({ f with line:=9,v:=r4.1.1 }:FrV),()))
  else
  some (((⟨false,0,0⟩:ResV),()),(({ e with m:=r4.2.1 }:EnvV),({ f with line:=wi (f.line+1),v:=r4.1.1 }:FrV),()))
 else
 if f.line=5 then
  if f.line=5 then
   if f.q.cap<1 then
   (aaZ e.m 1 (-1) 0 0).bind fun r5 =>
   some (((⟨true,1,wi (r5.1.1)⟩:ResV),()),(({ e with m:=r5.2.1 }:EnvV),f,()))
   else
   if (wu (f.q.cap))≠0 then
   (aaZ e.m 1 (wi (f.q.ring+(wi ((Int.tmod (wu (f.u-1)) (wu (f.q.cap))))))) 0 0).bind fun r6 =>
   some (((⟨true,1,wi (r6.1.1)⟩:ResV),()),(({ e with m:=r6.2.1 }:EnvV),f,()))
   else none
  else
  if f.line=6 then
   (aaZ e.m 3 f.q.top f.v (wu (f.v+1))).bind fun r7 =>
   if (!r7.1.2.1)=true then
   some (((⟨false,0,0⟩:ResV),()),(({ e with m:=r7.2.1 }:EnvV),({ f with line:=9 }:FrV),()))
   else
   some (((⟨false,0,0⟩:ResV),()),(({ e with m:=r7.2.1 }:EnvV),({ f with line:=wi (f.line+1) }:FrV),()))
  else
  if f.line=7 then
   (aaZ e.m 2 f.q.bottom f.u 0).bind fun r8 =>
   some (((⟨false,0,0⟩:ResV),()),(({ e with m:=r8.2.1 }:EnvV),({ f with line:=wi (f.line+1) }:FrV),()))
  else
  (aaZ e.m 2 f.q.bottom f.u 0).bind fun r9 =>
  some (((⟨true,2,0⟩:ResV),()),(({ e with m:=r9.2.1 }:EnvV),f,()))
 else
 if f.line=8 then
  if f.q.cap<1 then
   (aaZ e.m 1 (-1) 0 0).bind fun r10 =>
   some (((⟨true,1,wi (r10.1.1)⟩:ResV),()),(({ e with m:=r10.2.1 }:EnvV),f,()))
  else
  if (wu (f.q.cap))≠0 then
   (aaZ e.m 1 (wi (f.q.ring+(wi ((Int.tmod (wu (f.u-1)) (wu (f.q.cap))))))) 0 0).bind fun r11 =>
   some (((⟨true,1,wi (r11.1.1)⟩:ResV),()),(({ e with m:=r11.2.1 }:EnvV),f,()))
  else none
 else
 if f.line=6 then
  (aaZ e.m 3 f.q.top f.v (wu (f.v+1))).bind fun r12 =>
  if (!r12.1.2.1)=true then
   some (((⟨false,0,0⟩:ResV),()),(({ e with m:=r12.2.1 }:EnvV),({ f with line:=9 }:FrV),()))
  else
  some (((⟨false,0,0⟩:ResV),()),(({ e with m:=r12.2.1 }:EnvV),({ f with line:=wi (f.line+1) }:FrV),()))
 else
 if f.line=7 then
  (aaZ e.m 2 f.q.bottom f.u 0).bind fun r13 =>
  some (((⟨false,0,0⟩:ResV),()),(({ e with m:=r13.2.1 }:EnvV),({ f with line:=wi (f.line+1) }:FrV),()))
 else
 (aaZ e.m 2 f.q.bottom f.u 0).bind fun r14 =>
 some (((⟨true,2,0⟩:ResV),()),(({ e with m:=r14.2.1 }:EnvV),f,()))
noncomputable abbrev av2:Con SR1:=⟨145,[.ref 12,.ref 8],[.val 10],fun x =>ayX x.1 x.2.1⟩
noncomputable def ayV:List (Nat×Func):=[(151,Tryz.f151),(69,Tryz.f69),(149,Tryz.f149),(154,Tryz.f154),(70,Tryz.f70),(153,Tryz.f153)]
theorem ayW:CO Tryz.prog av2:=abc abb Tryz.func145 [ac7] ⟨acG,trivial⟩ ayV ⟨Tryz.func151,Tryz.func69,Tryz.func149,Tryz.func154,Tryz.func70,Tryz.func153,trivial⟩ (fun _ =>[]) [] fun x =>by kernel_rfl
noncomputable def an5 (e:EnvV) (f:FrV):Option ((ResV×Unit)×(EnvV×FrV×Unit)) :=
 if f.line=1 then
  (aaZ e.m 1 f.q.top 0 0).bind fun r1 =>
  some (((⟨false,0,0⟩:ResV),()),(({ e with m:=r1.2.1 }:EnvV),({ f with line:=wi (f.line+1),v:=r1.1.1 }:FrV),()))
 else
 if f.line=2 then
  (aaZ e.m 1 f.q.bottom 0 0).bind fun r2 =>
  if (wi (wu (r2.1.1-f.v)))≤0 then
   some (((⟨true,2,0⟩:ResV),()),(({ e with m:=r2.2.1 }:EnvV),({ f with u:=r2.1.1 }:FrV),()))
  else
  some (((⟨false,0,0⟩:ResV),()),(({ e with m:=r2.2.1 }:EnvV),({ f with line:=wi (f.line+1),u:=r2.1.1 }:FrV),()))
 else
 if f.line=3 then
  if f.q.cap<1 then
   (aaZ e.m 1 (-1) 0 0).bind fun r3 =>
   some (((⟨false,0,0⟩:ResV),()),(({ e with m:=r3.2.1 }:EnvV),({ f with line:=wi (f.line+1),w:=r3.1.1 }:FrV),()))
  else
  if (wu (f.q.cap))≠0 then
   (aaZ e.m 1 (wi (f.q.ring+(wi ((Int.tmod f.v (wu (f.q.cap))))))) 0 0).bind fun r4 =>
   some (((⟨false,0,0⟩:ResV),()),(({ e with m:=r4.2.1 }:EnvV),({ f with line:=wi (f.line+1),w:=r4.1.1 }:FrV),()))
  else none
 else
 (aaZ e.m 3 f.q.top f.v (wu (f.v+1))).bind fun r5 =>
 if r5.1.2.1=true then
  some (((⟨true,1,wi (f.w)⟩:ResV),()),(({ e with m:=r5.2.1 }:EnvV),f,()))
 else
 some (((⟨true,4,0⟩:ResV),()),(({ e with m:=r5.2.1 }:EnvV),f,()))
noncomputable abbrev apN:Con SR1:=⟨146,[.ref 12,.ref 8],[.val 10],fun x =>an5 x.1 x.2.1⟩
noncomputable def aue:List (Nat×Func):=[(151,Tryz.f151),(69,Tryz.f69),(149,Tryz.f149),(70,Tryz.f70),(153,Tryz.f153)]
theorem auf:CO Tryz.prog apN:=abc abb Tryz.func146 [ac7] ⟨acG,trivial⟩ aue ⟨Tryz.func151,Tryz.func69,Tryz.func149,Tryz.func70,Tryz.func153,trivial⟩ (fun _ =>[]) [] fun x =>by kernel_rfl
noncomputable def ahT (e:EnvV) (f:FrV):Option ((ResV×Unit)×(EnvV×FrV×Unit)) :=
 if f.line=1 then
  (ajh f.b).bind fun r1 =>
  if f.a=f.a then
   (aaZ e.m 5 f.a (az1 r1.1.1) 0).bind fun r2 =>
   some (((⟨false,0,0⟩:ResV),()),(({ e with m:=r2.2.1 }:EnvV),({ f with line:=wi (f.line+1) }:FrV),()))
  else none
 else
 if f.line=2 then
  (aaZ e.m 1 f.q.bottom 0 0).bind fun r3 =>
  some (((⟨false,0,0⟩:ResV),()),(({ e with m:=r3.2.1 }:EnvV),({ f with line:=wi (f.line+1),u:=r3.1.1 }:FrV),()))
 else
 if f.line=3 then
  (aaZ e.m 1 f.q.top 0 0).bind fun r4 =>
  if (wi (wu (f.u-r4.1.1)))≤0 then
   some (((⟨true,2,0⟩:ResV),()),(({ e with m:=r4.2.1 }:EnvV),({ f with v:=r4.1.1 }:FrV),()))
  else
  some (((⟨false,0,0⟩:ResV),()),(({ e with m:=r4.2.1 }:EnvV),({ f with line:=wi (f.line+1),v:=r4.1.1 }:FrV),()))
 else
 (ajh f.b).bind fun r5 =>
 if f.a=f.a then
  (aaZ e.m 4 f.a r5.1.1 0).bind fun r6 =>
  some (((⟨true,1,0⟩:ResV),()),(({ e with m:=r6.2.1 }:EnvV),f,()))
 else none
noncomputable abbrev akt:Con SR1:=⟨150,[.ref 12,.ref 8],[.val 10],fun x =>ahT x.1 x.2.1⟩
noncomputable def an8:List (Nat×Func):=[(188,Tryz.f188),(151,Tryz.f151),(69,Tryz.f69),(149,Tryz.f149),(147,Tryz.f147)]
theorem an9:CO Tryz.prog akt:=abc abb Tryz.func150 [ajg,ac7] ⟨ajf,acG,trivial⟩ an8 ⟨Tryz.func188,Tryz.func151,Tryz.func69,Tryz.func149,Tryz.func147,trivial⟩ (fun _ =>[]) [] fun x =>by kernel_rfl
noncomputable def ai5 (e:EnvV) (f:FrV):Option ((ResV×Unit)×(EnvV×FrV×Unit)) :=
 if f.line=1 then
  (aaZ e.m 1 2 0 0).bind fun r1 =>
  if e.c.heap≤(wi (r1.1.1)) then
   some (((⟨true,3,0⟩:ResV),()),(({ e with m:=r1.2.1 }:EnvV),({ f with n:=wi (r1.1.1) }:FrV),()))
  else
  some (((⟨false,0,0⟩:ResV),()),(({ e with m:=r1.2.1 }:EnvV),({ f with line:=wi (f.line+1),n:=wi (r1.1.1) }:FrV),()))
 else
 if f.line=2 then
  (aaZ e.m 6 3 1 0).bind fun r2 =>
  if f.b=f.b then
   if f.a=f.a then
   (as1 f.a (wi (r2.1.1)) f.b).bind fun r3 =>
   if (!r3.1.2.1)=true then
   some (((⟨true,4,0⟩:ResV),()),(({ e with m:=r2.2.1 }:EnvV),f,()))
   else
   if f.n≤0 then
   some (((⟨false,0,0⟩:ResV),()),(({ e with m:=r2.2.1 }:EnvV),({ f with line:=5,i:=f.n,w:=r3.1.1 }:FrV),()))
   else
   some (((⟨false,0,0⟩:ResV),()),(({ e with m:=r2.2.1 }:EnvV),({ f with line:=wi (f.line+1),i:=f.n,w:=r3.1.1 }:FrV),()))
   else none
  else none
 else
 if f.line=3 then
  (agX e.c (wi (Int.tdiv (wi (f.i-1)) 2))).bind fun r4 =>
  (aaZ e.m 1 r4.1.1 0 0).bind fun r5 =>
  if r5.1.1≤f.w then
   some (((⟨false,0,0⟩:ResV),()),(({ e with m:=r5.2.1 }:EnvV),({ f with line:=5,x:=r5.1.1 }:FrV),()))
  else
  some (((⟨false,0,0⟩:ResV),()),(({ e with m:=r5.2.1 }:EnvV),({ f with line:=wi (f.line+1),x:=r5.1.1 }:FrV),()))
 else
 if f.line=4 then
  (agX e.c f.i).bind fun r6 =>
  if f.x=f.x then
   (aaZ e.m 2 r6.1.1 f.x 0).bind fun r7 =>
   if (wi (Int.tdiv (wi (f.i-1)) 2))≤0 then
   some (((⟨false,0,0⟩:ResV),()),(({ e with m:=r7.2.1 }:EnvV),({ f with line:=5,i:=wi (Int.tdiv (wi (f.i-1)) 2) }:FrV),()))
   else
   some (((⟨false,0,0⟩:ResV),()),(({ e with m:=r7.2.1 }:EnvV),({ f with line:=3,i:=wi (Int.tdiv (wi (f.i-1)) 2) }:FrV),()))
  else none
 else
 if f.line=5 then
  (agX e.c f.i).bind fun r8 =>
  if f.w=f.w then
   (aaZ e.m 2 r8.1.1 f.w 0).bind fun r9 =>
   some (((⟨false,0,0⟩:ResV),()),(({ e with m:=r9.2.1 }:EnvV),({ f with line:=wi (f.line+1) }:FrV),()))
  else none
 else
 (aaZ e.m 2 2 (wu (wi (f.n+1))) 0).bind fun r10 =>
 some (((⟨true,0,0⟩:ResV),()),(({ e with m:=r10.2.1 }:EnvV),f,()))
noncomputable abbrev am4:Con SR1:=⟨155,[.ref 12,.ref 8],[.val 10],fun x =>ai5 x.1 x.2.1⟩
noncomputable def aro:List (Nat×Func):=[(151,Tryz.f151),(149,Tryz.f149),(191,Tryz.f191),(154,Tryz.f154)]
theorem arp:CO Tryz.prog am4:=abc abb Tryz.func155 [ac7,as0,aoe] ⟨acG,awf,apW,trivial⟩ aro ⟨Tryz.func151,Tryz.func149,Tryz.func191,Tryz.func154,trivial⟩ (fun _ =>[]) [] fun x =>by kernel_rfl
noncomputable def aaX (e:EnvV) (a:Int) (b:Int) (c:Int) (d:Int) (i:Int):Option ((Unit)×(EnvV×Unit)) :=
 if (((e.evs.length+([(⟨a,b,c,d,i⟩:Ev)]:List Ev).length:Nat)):Int)<1000000000000 then
  some ((()),(({ e with evs:=e.evs++([(⟨a,b,c,d,i⟩:Ev)]) }:EnvV),()))
 else none
noncomputable abbrev abC:Con SR1:=⟨167,[.ref 12,.sh sI_,.sh sI_,.sh sI_,.sh sI_,.sh sI_],[],fun x =>aaX x.1 x.2.1 x.2.2.1 x.2.2.2.1 x.2.2.2.2.1 x.2.2.2.2.2.1⟩
theorem aby:CO Tryz.prog abC:=abc abb Tryz.func167 [] trivial [] trivial (fun _ =>[]) [] fun x =>by kernel_rfl
noncomputable def abV (f:FrV):Option ((Int×Unit)×(FrV×Unit)) :=
 if f.w<f.v then
  some ((7,()),(f,()))
 else
 some ((8,()),(f,()))
noncomputable abbrev am2:Con SR1:=⟨193,[.ref 8],[.sh sI_],fun x =>abV x.1⟩
theorem arn:CO Tryz.prog am2:=abc abb Tryz.func193 [] trivial [] trivial (fun _ =>[]) [] fun x =>by kernel_rfl
end
section
open Go
theorem asv {xs:List RecV} {i:Int} (h:0≤i∧i<(xs.length:Int)):ws7 xs i=xs:=by
 have h1:i.toNat<xs.length:=by omega
 have h2:xs[i.toNat]?=some (abH xs i):=aej h
 apply List.ext_getElem?
 intro j
 by_cases e:i.toNat=j
 ·subst e; show (xs.set i.toNat _)[i.toNat]?=_; rw [List.getElem?_set_self h1,h2]
 ·exact List.getElem?_set_ne e
section
variable {α β:Type} {o:Option α} {P Q:α→Prop} {x:α}
end
theorem aaP (x:Int):Rg (wi x):=by
 show -9223372036854775808≤IntKind.i64.wrap x∧IntKind.i64.wrap x≤9223372036854775807
 rw [IntKind.wrap_i64]; omega
theorem ach {σ β:Type} (F:(σ→Option β)→σ→Option β) (k:Nat) (x:σ):lpF F (k+1) x=F (lpF F k) x:=rfl
def azm (k old v w:Int):Int:=if k=2 then v else if k=3 then (if old=v then w else old) else if k=4 then orU old v else if k=5 then aFL old v else if k=6 then wu (old+v) else old
def acc (m:MemV) (k a v w:Int):(Int×Bool)×MemV :=
 if 0≤a∧a<(m.cells.length:Int) then
  ((aeG m.cells a,if k=3 then decide (aeG m.cells a=v) else true),⟨m.cells.set a.toNat (azm k (aeG m.cells a) v w),⟨k,a,aeG m.cells a,azm k (aeG m.cells a) v w⟩,wi (m.count+1)⟩)
 else ((0,false),m)
theorem abI (m:MemV) (k a v w:Int):aaZ m k a v w=some (((acc m k a v w).1.1,(acc m k a v w).1.2,()),((acc m k a v w).2,())):=by
 unfold aaZ aEY acc
 by_cases h0:0≤a
 ·by_cases h1:a<(m.cells.length:Int)
  ·simp only [h0,h1,if_true,Option.bind_some,decide_true,Bool.not_true,Bool.false_eq_true,if_false,and_self]
   by_cases k2:k=2
   ·subst k2; simp [azm]
   by_cases k3:k=3
   ·subst k3
    by_cases hv:aeG m.cells a=v<;>simp [azm,hv]
   by_cases k4:k=4
   ·subst k4; simp [azm]
   by_cases k5:k=5
   ·subst k5; simp [azm]
   by_cases k6:k=6
   ·subst k6; simp [azm]
   simp [azm,k2,k3,k4,k5,k6]
  ·simp [h0,h1]
 ·simp [h0]
theorem aCM (m:MemV) (k a v w:Int):(acc m k a v w).2.cells.length=m.cells.length:=by
 unfold acc; split<;>simp
theorem aEu {m:MemV} {k a v w:Int} (h:(acc m k a v w).1.2=true):0≤a∧a<(m.cells.length:Int):=by
 unfold acc at h; split at h
 ·assumption
 ·cases h
def ixA (a b c d:Int):Int:=if b<0 then -1 else if c≤b then -1 else wi (a+wi (b*d))
theorem af6 (a b c d:Int):ahq a b c d=some ((ixA a b c d,()),()):=by
 unfold ahq ixA; split
 ·rfl
 ·split<;>rfl
def dqA (c:Cfg):Int:=wi ((wi ((wi (4+c.heap))+c.classes))+(wi (2*c.workers)))
theorem aiA (c:Cfg):ajd c=some ((dqA c,()),()):=rfl
def aEZ (c:Cfg) (a b:Int):Int:=wi (dqA c+(wi ((wi ((wi (a*c.levels))+b))*(wi (2+c.deque)))))
def ajj (c:Cfg) (a b:Int):QV:=if a<0 then ⟨-1,-1,-1,0⟩ else if c.workers≤a then ⟨-1,-1,-1,0⟩ else if b<0 then ⟨-1,-1,-1,0⟩ else if c.levels≤b then ⟨-1,-1,-1,0⟩ else ⟨aEZ c a b,wi (aEZ c a b+1),wi (aEZ c a b+2),c.deque⟩
theorem abd (c:Cfg) (a b:Int):aes c a b=some ((ajj c a b,()),()):=by
 unfold aes ajj
 simp only [aiA,Option.bind_some,if_true]
 repeat' split
 all_goals rfl
def abf (c:Cfg) (a b:Int):Int:=if ixA (wi (dqA c+(wi ((wi (c.workers*c.levels))*(wi (2+c.deque)))))) a c.tasks 5<0 then -1 else wi (ixA (wi (dqA c+(wi ((wi (c.workers*c.levels))*(wi (2+c.deque)))))) a c.tasks 5+b)
theorem aho (c:Cfg) (a b:Int):akw c a b=some ((abf c a b,()),()):=by
 unfold akw abf
 simp only [aiA,af6,Option.bind_some,if_true]
 repeat' split
 all_goals rfl
theorem abQ (c:Cfg) (a:Int):agX c a=some ((ixA 4 a c.heap 1,()),()):=by unfold agX; simp only [af6,Option.bind_some]
theorem abp (c:Cfg) (a:Int):ac6 c a=some ((abf c a 0,()),()):=by unfold ac6; simp only [aho,Option.bind_some]
theorem abr (c:Cfg) (a:Int):aee c a=some ((abf c a 1,()),()):=by unfold aee; simp only [aho,Option.bind_some]
theorem abR (c:Cfg) (a:Int):ana c a=some ((abf c a 2,()),()):=by unfold ana; simp only [aho,Option.bind_some]
theorem abo (c:Cfg) (a:Int):aiy c a=some ((abf c a 3,()),()):=by unfold aiy; simp only [aho,Option.bind_some]
theorem abq (c:Cfg) (a:Int):afS c a=some ((abf c a 4,()),()):=by unfold afS; simp only [aho,Option.bind_some]
def acb (c:Cfg) (a:Int):Int:=ixA (wi ((wi ((wi (4+c.heap))+c.classes))+c.workers)) a c.workers 1
theorem aaO (c:Cfg) (a:Int):adD c a=some ((acb c a,()),()):=by unfold adD; simp only [af6,Option.bind_some]; rfl
def ahE (c:Cfg):Int:=wi ((wi (dqA c+(wi ((wi (c.workers*c.levels))*(wi (2+c.deque))))))+(wi (5*c.tasks)))
theorem auu (c:Cfg):aiB c=some ((ahE c,()),()):=by unfold aiB; simp only [aiA,Option.bind_some,if_true]; rfl
theorem aaT (c:Cfg) (a:Int):afb c a=some ((ixA (wi (4+c.heap)) a c.classes 1,()),()):=by unfold afb; simp only [af6,Option.bind_some]
theorem abt (c:Cfg) (a:Int):ajW c a=some ((ixA (wi ((wi (4+c.heap))+c.classes)) a c.workers 1,()),()):=by unfold ajW; simp only [af6,Option.bind_some]
theorem ayr {c:Cfg} {t k:Int} (h:0≤abf c t k):0≤t∧t<c.tasks:=by
 unfold abf at h
 split at h
 ·omega
 ·rename_i h1
  unfold ixA at h1
  repeat' split at h1
  all_goals omega
def arD (n:Nat) (y:Int):Int:=match n with
 | 0 =>y
 | n+1 =>arD n (wu (y*2))
theorem ani {F:(Int×Int×Unit→Option (Int×Int×Unit))→Int×Int×Unit→Option (Int×Int×Unit)} (hF:F=fun self x =>if 0<x.1 then self (wi (x.1-1),wu (x.2.1*2),()) else some (x.1,x.2.1,())):∀ (n k:Nat) (y:Int),n≤64→n<k→lpF F k ((n:Int),y,())=some (0,arD n y,())
 | 0,k+1,y,_,_ =>by rw [ach,congrFun (congrFun hF _) _]; simp [arD]
 | n+1,k+1,y,hn,hk =>by
  rw [ach,congrFun (congrFun hF _) _]
  have e:wi (((n+1:Nat):Int)-1)=(n:Int):=by rw [acH (aam (by omega))]; omega
  simp only [e]
  rw [if_pos (by omega)]
  exact ani hF n k _ (by omega) (by omega)
theorem aet {a:Int} (h0:0≤a) (h1:a≤64):afo a=some ((arD a.toNat 1,()),()):=by
 unfold afo
 have:=ani rfl a.toNat 18446744073709551616 1 (by omega) (by omega)
 rw [show ((a.toNat:Nat):Int)=a by omega] at this
 rw [this]; rfl
theorem awr:(List.range 64).all (fun k =>decide (arD k 1=2 ^ k))=true:=by decide +kernel
theorem aBN {k:Nat} (h:k<64):arD k 1=2 ^ k:=by
 have:=List.all_eq_true.1 awr k (by simp; omega)
 simpa using this
theorem alF {k:Nat} (h:k<64):arD k 1≠0:=by
 rw [aBN h]
 have:(0:Int)<2 ^ k:=Int.pow_pos (by omega)
 omega
def aAW (a b:Int):Bool:=if 0≤b∧b<64 then decide (Int.tmod (wu (Int.tdiv a (arD b.toNat 1))) 2=1) else false
theorem ab7 (a b:Int):ap1 a b=some ((aAW a b,()),()):=by
 unfold ap1 aAW
 by_cases h0:0≤b
 ·by_cases h1:b<64
  ·simp only [h0,h1,if_true,and_self,aet h0 (by omega:b≤64),Option.bind_some]
   rw [if_pos (alF (by omega))]
  ·simp [h0,h1]
 ·simp [h0]
def alO (a:Int):Int:=if 0≤a∧a≤63 then arD a.toNat 1 else 0
theorem abi (a:Int):ajh a=some ((alO a,()),()):=by
 unfold ajh alO
 by_cases h0:a<0
 ·rw [if_pos h0,if_neg (by omega)]
 ·rw [if_neg h0]
  by_cases h1:63<a
  ·rw [if_pos h1,if_neg (by omega)]
  ·rw [if_neg h1,if_pos (by omega),aet (by omega) (by omega)]; rfl
def ap4 (a b c:Int):Int×Bool:=if a<0∨16777215<a∨b<0∨16777215<b∨c<0∨65535<c then (0,false) else (wu ((wu ((wu ((wu ((wu (a))*arD 24 1))+(wu (b))))*arD 16 1))+(wu (c))),true)
theorem abS (a b c:Int):as1 a b c=some (((ap4 a b c).1,(ap4 a b c).2,()),()):=by
 unfold as1 ap4
 simp only [aet (show (0:Int)≤24 by omega) (by omega),aet (show (0:Int)≤16 by omega) (by omega),Option.bind_some]
 repeat' split
 all_goals first | rfl | omega
def afP (a:Int):Int×Int×Int:=(wi (wu (Int.tdiv a (arD 40 1))),wi ((Int.tmod (wu (Int.tdiv a (arD 16 1))) (arD 24 1))),wi ((Int.tmod a (arD 16 1))))
theorem aa8 (a:Int):ak1 a=some (((afP a).1,(afP a).2.1,(afP a).2.2,()),()):=by
 unfold ak1 afP
 simp only [aet (show (0:Int)≤24 by omega) (by omega),aet (show (0:Int)≤16 by omega) (by omega),aet (show (0:Int)≤40 by omega) (by omega),Option.bind_some]
 rw [if_pos (alF (by decide)),if_pos (alF (by decide)),if_pos (alF (by decide)),if_pos (alF (by decide))]
 rfl
def aoF (a:Int):Nat→Int
 | 0 =>-1
 | n+1 =>if aAW a n=true then n else aoF a n
def aiF (a:Int):Int:=aoF a 64
theorem aqr {a:Int} {F:(Int×Unit→Option ((Int×Unit)⊕((Int×Unit)×Unit)))→Int×Unit→Option ((Int×Unit)⊕((Int×Unit)×Unit))}
  (hF:F=fun self x =>if 0≤x.1 then (ap1 a x.1).bind fun r =>if r.1.1=true then Option.map Sum.inr (some ((x.1,()),())) else self (wi (x.1-1),()) else some (Sum.inl (x.1,()))) :
  ∀ (n k:Nat),n≤64→n<k→((lpF F k ((n:Int)-1,())).bind fun z =>match z with | .inr o =>some o | .inl _ =>some ((((-1:Int),()),()):(Int×Unit)×Unit))=some ((aoF a n,()),())
 | 0,k+1,_,_ =>by rw [ach,congrFun (congrFun hF _) _]; rfl
 | n+1,k+1,hn,hk =>by
  rw [ach,congrFun (congrFun hF _) _]
  have e:(((n+1:Nat):Int)-1)=(n:Int):=by omega
  have e2:wi ((n:Int)-1)=(n:Int)-1:=acH (aam (by omega))
  simp only [e,ab7,Option.bind_some,e2]
  rw [if_pos (by omega)]
  by_cases hb:aAW a n=true
  ·simp [hb,aoF]
  ·simp only [hb,Bool.false_eq_true,if_false,aoF]
   exact aqr hF n k (by omega) (by omega)
theorem abj (a:Int):akx a=some ((aiF a,()),()):=by
 unfold akx
 exact aqr (a:=a) rfl 64 18446744073709551616 (by omega) (by omega)
theorem atm (a:Int):∀ n:Nat,n≤64 → -1≤aoF a n∧aoF a n<n
 | 0,_ =>by simp [aoF]
 | n+1,h =>by
  have:=atm a n (by omega)
  unfold aoF; split<;>omega
theorem azH (a:Int):-1≤aiF a∧aiF a≤63:=by
 have:=atm a 64 (by omega)
 unfold aiF; omega
def azs (a:Int):Nat→Int
 | 0 =>-1
 | n+1 =>if aAW a ((63-n:Nat):Int)=true then ((63-n:Nat):Int) else azs a n
def aB3 (a:Int):Int:=azs a 64
theorem ata {a:Int} {F:(Int×Int×Unit→Option ((Int×Int×Unit)⊕((Int×Unit)×Unit)))→Int×Int×Unit→Option ((Int×Int×Unit)⊕((Int×Unit)×Unit))}
  (hF:F=fun self x =>if x.2.1<64 then (ap1 a x.2.1).bind fun r =>if (!r.1.1)=true then self (x.1,wi (x.2.1+1),()) else if x.1=0 then Option.map Sum.inr (some ((x.2.1,()),())) else self (wi (x.1-1),wi (x.2.1+1),()) else some (Sum.inl (x.1,x.2.1,()))) :
  ∀ (n k:Nat),n≤64→n<k→((lpF F k (0,((64-n:Nat):Int),())).bind fun z =>match z with | .inr o =>some o | .inl _ =>some ((((-1:Int),()),()):(Int×Unit)×Unit))=some ((azs a n,()),())
 | 0,k+1,_,_ =>by rw [ach,congrFun (congrFun hF _) _]; rfl
 | n+1,k+1,hn,hk =>by
  rw [ach,congrFun (congrFun hF _) _]
  have e:(((64-(n+1):Nat)):Int)=((63-n:Nat):Int):=by omega
  have e2:wi (((63-n:Nat):Int)+1)=((64-n:Nat):Int):=by rw [acH (aam (by omega))]; omega
  simp only [e,ab7,Option.bind_some,e2]
  rw [if_pos (by omega)]
  by_cases hb:aAW a ((63-n:Nat):Int)=true
  ·simp [hb,azs]
  ·have hb':aAW a ((63-n:Nat):Int)=false:=by simpa using hb
   simp only [hb',Bool.not_false,if_true,azs,Bool.false_eq_true,if_false]
   exact ata hF n k (by omega) (by omega)
theorem acf (a:Int):ay6 a=some ((aB3 a,()),()):=by
 unfold ay6
 have:ay4 a 0=some ((aB3 a,()),()):=by
  unfold ay4
  exact ata (a:=a) rfl 64 18446744073709551616 (by omega) (by omega)
 rw [this]; rfl
theorem awN (a:Int):∀ n:Nat,n≤64 → -1≤azs a n∧azs a n<64
 | 0,_ =>by simp [azs]
 | n+1,h =>by
  have:=awN a n (by omega)
  unfold azs; split<;>omega
theorem aB2 (a:Int):-1≤aB3 a∧aB3 a≤63:=by
 have:=awN a 64 (by omega)
 unfold aB3; omega
def acs (a b:Int):Int:=if b<1 then 0 else if Int.tmod a b<0 then wi (Int.tmod a b+b) else Int.tmod a b
theorem abD (a b:Int):aje a b=some ((acs a b,()),()):=by
 unfold aje acs
 by_cases h:b<1
 ·rw [if_pos h,if_pos h]
 ·rw [if_neg h,if_neg h]
  have hb:b≠0:=by omega
  rw [if_pos hb]
  by_cases h2:Int.tmod a b<0
  ·rw [if_pos h2,if_pos h2,if_pos hb]
  ·rw [if_neg h2,if_neg h2,if_pos hb]
theorem aoV {a b:Int} (h1:1≤b) (h2:b≤1000000000000):0≤acs a b∧acs a b<b:=by
 unfold acs
 have h3:=Int.tmod_lt_of_pos a (b:=b) (by omega)
 have h4:=Int.lt_tmod_of_pos a (b:=b) (by omega)
 rw [if_neg (by omega)]
 split
 ·rw [acH (aam (by omega))]; omega
 ·omega
theorem axC {a b:Int} (h2:b≤1000000000000):Rg (acs a b):=by
 by_cases h:1≤b
 ·have:=aoV (a:=a) h h2; exact aam (by omega)
 ·unfold acs; rw [if_pos (by omega)]; exact aam (by omega)
def axQ (a b c:Int):Int:=if b<1∨64<b∨a<0∨b≤a∨c<1∨8<c then 0 else wi (Int.tdiv (wi (a*c)) b)
theorem abu (a b c:Int):aoh a b c=some ((axQ a b c,()),()):=by
 unfold aoh axQ
 repeat' split
 all_goals first | rfl | omega
theorem anK {a b:Int} (h1:1≤b) (h2:b≤1000000000000):Rg (Int.tmod a b):=by
 have h3:=Int.tmod_lt_of_pos a (b:=b) (by omega)
 have h4:=Int.lt_tmod_of_pos a (b:=b) (by omega)
 exact aam (by omega)
def EnvV.ac (e:EnvV) (k a v w:Int):EnvV:={ e with m:=(acc e.m k a v w).2 }
def EnvV.rd (e:EnvV) (k a v w:Int):Int:=(acc e.m k a v w).1.1
def EnvV.hit (e:EnvV) (k a v w:Int):Bool:=(acc e.m k a v w).1.2
def EnvV.em (e:EnvV) (k w t o l:Int):EnvV:={ e with evs:=e.evs++[⟨k,w,t,o,l⟩] }
def EnvV.rc (e:EnvV) (t:Int):RecV:=abH e.recs t
def EnvV.put (e:EnvV) (t:Int) (r:RecV):EnvV:={ e with recs:=e.recs.set t.toNat r }
def acE (e:EnvV) (t:Int):Prop:=0≤t∧t<e.c.tasks∧t<(e.recs.length:Int)
instance (e : EnvV) (t : Int) : Decidable (acE e t) := inferInstanceAs (Decidable (_ ∧ _ ∧ _))
def EnvV.prog (e:EnvV) (t:Int):List Ins:=if (e.rc t).prog<0∨(e.c.progs.length:Int)≤(e.rc t).prog then [] else atL [] e.c.progs (e.rc t).prog
def EnvV.ins (e:EnvV) (t:Int):Ins:=afW (e.prog t) (e.rc t).pc
abbrev Lf:=ResV×EnvV×FrV
def go (e:EnvV) (f:FrV):Lf:=(⟨false,0,0⟩,e,f)
def fin (c v:Int) (e:EnvV) (f:FrV):Lf:=(⟨true,c,v⟩,e,f)
def aeO (o:Lf):(ResV×Unit)×(EnvV×FrV×Unit):=((o.1,()),(o.2.1,o.2.2,()))
def ae5 (q:QV) (i:Int):Int:=if q.cap<1 then -1 else wi (q.ring+wi (Int.tmod i (wu q.cap)))
def szV (b t:Int):Int:=wi (wu (b-t))
abbrev EnvV.ld (e:EnvV) (a:Int):Int:=e.rd 1 a 0 0
abbrev EnvV.lm (e:EnvV) (a:Int):EnvV:=e.ac 1 a 0 0
abbrev EnvV.sm (e:EnvV) (a v:Int):EnvV:=e.ac 2 a v 0
def acY (c:Cfg) (a:Int):Int:=ixA (wi ((wi (4+c.heap))+c.classes)) a c.workers 1
def adn (c:Cfg) (a:Int):Int:=ixA (wi (4+c.heap)) a c.classes 1
def acN (c:Cfg) (a:Int):Int:=ixA 4 a c.heap 1
def ap2 (e:EnvV) (f:FrV):Lf :=
 if f.line=1 then go (e.lm f.q.bottom) { f with line:=2,u:=e.ld f.q.bottom }
 else if f.line=2 then
  if f.q.cap≤szV f.u (e.ld f.q.top) then fin 3 0 (e.lm f.q.top) { f with v:=e.ld f.q.top } else go (e.lm f.q.top) { f with line:=3,v:=e.ld f.q.top }
 else if f.line=3 then go (e.sm (ae5 f.q f.u) (wu f.a)) { f with line:=4 }
 else fin 0 0 (e.sm f.q.bottom (wu (f.u+1))) f
def aAB (e:EnvV) (f:FrV):Lf :=
 if f.line=1 then go (e.lm f.q.bottom) { f with line:=2,u:=e.ld f.q.bottom }
 else if f.line=2 then
  if szV f.u (e.ld f.q.top)≤0 then fin 2 0 (e.lm f.q.top) { f with v:=e.ld f.q.top } else go (e.lm f.q.top) { f with line:=3,v:=e.ld f.q.top }
 else if f.line=3 then go (e.sm f.q.bottom (wu (f.u-1))) { f with line:=4 }
 else if f.line=4 then
  if szV (wu (f.u-1)) (e.ld f.q.top)=0 then go (e.lm f.q.top) { f with line:=6,v:=e.ld f.q.top }
  else if szV (wu (f.u-1)) (e.ld f.q.top)<0 then go (e.lm f.q.top) { f with line:=9,v:=e.ld f.q.top }
  else go (e.lm f.q.top) { f with line:=5,v:=e.ld f.q.top }
 else if f.line=5∨f.line=8 then fin 1 (wi (e.ld (ae5 f.q (wu (f.u-1))))) (e.lm (ae5 f.q (wu (f.u-1)))) f
 else if f.line=6 then
  if e.hit 3 f.q.top f.v (wu (f.v+1))=true then go (e.ac 3 f.q.top f.v (wu (f.v+1))) { f with line:=7 } else go (e.ac 3 f.q.top f.v (wu (f.v+1))) { f with line:=9 }
 else if f.line=7 then go (e.sm f.q.bottom f.u) { f with line:=8 }
 else fin 2 0 (e.sm f.q.bottom f.u) f
def akl (e:EnvV) (f:FrV):Lf :=
 if f.line=1 then go (e.lm f.q.top) { f with line:=2,v:=e.ld f.q.top }
 else if f.line=2 then
  if szV (e.ld f.q.bottom) f.v≤0 then fin 2 0 (e.lm f.q.bottom) { f with u:=e.ld f.q.bottom } else go (e.lm f.q.bottom) { f with line:=3,u:=e.ld f.q.bottom }
 else if f.line=3 then go (e.lm (ae5 f.q f.v)) { f with line:=4,w:=e.ld (ae5 f.q f.v) }
 else if e.hit 3 f.q.top f.v (wu (f.v+1))=true then fin 1 (wi f.w) (e.ac 3 f.q.top f.v (wu (f.v+1))) f else fin 4 0 (e.ac 3 f.q.top f.v (wu (f.v+1))) f
def akI (e:EnvV) (f:FrV):Lf :=
 if f.line=1 then go (e.ac 5 f.a (az1 (alO f.b)) 0) { f with line:=2 }
 else if f.line=2 then go (e.lm f.q.bottom) { f with line:=3,u:=e.ld f.q.bottom }
 else if f.line=3 then
  if szV f.u (e.ld f.q.top)≤0 then fin 2 0 (e.lm f.q.top) { f with v:=e.ld f.q.top } else go (e.lm f.q.top) { f with line:=4,v:=e.ld f.q.top }
 else fin 1 0 (e.ac 4 f.a (alO f.b) 0) f
def ahz (e:EnvV) (f:FrV):Lf :=
 if f.line=1 then
  if e.c.heap≤wi (e.ld 2) then fin 3 0 (e.lm 2) { f with n:=wi (e.ld 2) } else go (e.lm 2) { f with line:=2,n:=wi (e.ld 2) }
 else if f.line=2 then
  if (ap4 f.a (wi (e.rd 6 3 1 0)) f.b).2=true then
   if f.n≤0 then go (e.ac 6 3 1 0) { f with line:=5,i:=f.n,w:=(ap4 f.a (wi (e.rd 6 3 1 0)) f.b).1 } else go (e.ac 6 3 1 0) { f with line:=3,i:=f.n,w:=(ap4 f.a (wi (e.rd 6 3 1 0)) f.b).1 }
  else fin 4 0 (e.ac 6 3 1 0) f
 else if f.line=3 then
  if e.ld (acN e.c (wi (Int.tdiv (wi (f.i-1)) 2)))≤f.w then go (e.lm (acN e.c (wi (Int.tdiv (wi (f.i-1)) 2)))) { f with line:=5,x:=e.ld (acN e.c (wi (Int.tdiv (wi (f.i-1)) 2))) }
  else go (e.lm (acN e.c (wi (Int.tdiv (wi (f.i-1)) 2)))) { f with line:=4,x:=e.ld (acN e.c (wi (Int.tdiv (wi (f.i-1)) 2))) }
 else if f.line=4 then
  if wi (Int.tdiv (wi (f.i-1)) 2)≤0 then go (e.sm (acN e.c f.i) f.x) { f with line:=5,i:=wi (Int.tdiv (wi (f.i-1)) 2) } else go (e.sm (acN e.c f.i) f.x) { f with line:=3,i:=wi (Int.tdiv (wi (f.i-1)) 2) }
 else if f.line=5 then go (e.sm (acN e.c f.i) f.w) { f with line:=6 }
 else fin 0 0 (e.sm 2 (wu (wi (f.n+1)))) f
def acL (f:FrV):Int:=if f.w<f.v then 7 else 8
def ahj (e:EnvV) (f:FrV):Lf :=
 if f.line=1 then
  if wi (e.ld 2)≤0 then fin 2 0 (e.lm 2) { f with n:=wi (e.ld 2) } else go (e.lm 2) { f with line:=2,n:=wi (e.ld 2) }
 else if f.line=2 then go (e.lm (acN e.c 0)) { f with line:=3,u:=e.ld (acN e.c 0) }
 else if f.line=3 then go (e.lm (acN e.c (wi (f.n-1)))) { f with line:=4,v:=e.ld (acN e.c (wi (f.n-1))) }
 else if f.line=4 then
  if f.n=1 then fin 1 (afP f.u).2.2 ((e.sm 2 (wu (wi (f.n-1)))).em 13 f.a (afP f.u).2.2 0 0) f
  else if 1<wi (f.n-1) then go ((e.sm 2 (wu (wi (f.n-1)))).em 13 f.a (afP f.u).2.2 0 0) { f with line:=5,i:=0 }
  else go ((e.sm 2 (wu (wi (f.n-1)))).em 13 f.a (afP f.u).2.2 0 0) { f with line:=8,i:=0 }
 else if f.line=5 then
  if wi (f.n-1)≤wi (wi (2*f.i)+2) then go (e.lm (acN e.c (wi (wi (2*f.i)+1)))) { f with line:=acL { f with w:=e.ld (acN e.c (wi (wi (2*f.i)+1))) },j:=wi (wi (2*f.i)+1),w:=e.ld (acN e.c (wi (wi (2*f.i)+1))) }
  else go (e.lm (acN e.c (wi (wi (2*f.i)+1)))) { f with line:=6,j:=wi (wi (2*f.i)+1),w:=e.ld (acN e.c (wi (wi (2*f.i)+1))) }
 else if f.line=6 then
  if e.ld (acN e.c (wi (wi (2*f.i)+2)))<f.w then go (e.lm (acN e.c (wi (wi (2*f.i)+2)))) { f with line:=acL { f with w:=e.ld (acN e.c (wi (wi (2*f.i)+2))) },j:=wi (wi (2*f.i)+2),w:=e.ld (acN e.c (wi (wi (2*f.i)+2))) }
  else go (e.lm (acN e.c (wi (wi (2*f.i)+2)))) { f with line:=acL f }
 else if f.line=7 then
  if wi (wi (2*f.j)+1)<wi (f.n-1) then go (e.sm (acN e.c f.i) f.w) { f with line:=5,i:=f.j } else go (e.sm (acN e.c f.i) f.w) { f with line:=8,i:=f.j }
 else fin 1 (afP f.u).2.2 (e.sm (acN e.c f.i) f.v) f
def akJ (e:EnvV) (f:FrV):Lf :=
 if e.hit 3 (abf e.c f.b 0) 1 2=true then
  fin 1 f.b ((((e.ac 3 (abf e.c f.b 0) 1 2).put f.b { e.rc f.b with started:=true })).em (if (e.rc f.b).started=true then 9 else 5) f.a f.b 0 0) f
 else fin 4 0 ((e.ac 3 (abf e.c f.b 0) 1 2).em 15 f.a f.b 0 0) f
def ahJ (e:EnvV) (f:FrV):Lf :=
 if acE e (wi (e.rd 6 0 1 0)) then fin 1 (wi (e.rd 6 0 1 0)) (e.ac 6 0 1 0) f else fin 3 0 (e.ac 6 0 1 0) f
def afD (e:EnvV) (f:FrV):Lf :=
 if ¬ acE e f.a then fin 4 0 e f
 else if f.line=1 then go (e.sm (abf e.c f.a 1) (wu f.b)) { f with line:=2 }
 else if f.line=2 then go (e.sm (abf e.c f.a 4) (wu e.now)) { f with line:=3 }
 else fin 0 0 (e.sm (abf e.c f.a 0) 1) f
def ahA (e:EnvV) (f:FrV):Lf :=
 if ¬ acE e f.b then fin 4 0 e f
 else if f.line=1 then go (e.sm (abf e.c f.b 4) (wu e.now)) { f with line:=2 }
 else if f.line=2 then go (e.sm (abf e.c f.b 0) 1) { f with line:=3 }
 else go (e.lm (abf e.c f.b 1)) { f with line:=wi (f.line+1),t:=wi (e.ld (abf e.c f.b 1)) }
def akq (e:EnvV) (f:FrV):Lf :=
 if ¬ acE e f.b∨f.d<0∨e.c.levels≤f.d then fin 4 0 e f
 else if f.line=1 then
  if f.d≤wi (e.ld (abf e.c f.b 1)) then fin 0 0 (e.lm (abf e.c f.b 1)) { f with u:=e.ld (abf e.c f.b 1) } else go (e.lm (abf e.c f.b 1)) { f with line:=2,u:=e.ld (abf e.c f.b 1) }
 else if e.hit 3 (abf e.c f.b 1) f.u (wu f.d)=true then fin 1 0 ((e.ac 3 (abf e.c f.b 1) f.u (wu f.d)).em 11 f.a f.b 0 f.d) f
 else go (e.ac 3 (abf e.c f.b 1) f.u (wu f.d)) { f with line:=1 }
def aph (e:EnvV) (f:FrV):Lf :=
 if ¬ acE e f.b∨f.d<0∨e.c.levels≤f.d then fin 4 0 e f
 else if f.line=2 then
  if e.ld (abf e.c f.b 0)=1 then go (e.lm (abf e.c f.b 0)) { f with line:=3 } else go (e.lm (abf e.c f.b 0)) { f with line:=4 }
 else if e.ld (abf e.c f.b 3)=0 then fin 0 0 (e.lm (abf e.c f.b 3)) f
 else go (e.lm (abf e.c f.b 3)) { f with line:=1,b:=wi (wu (e.ld (abf e.c f.b 3)-1)) }
def akk (e:EnvV) (f:FrV):Lf :=
 if ¬ acE e f.b∨e.c.age=0 then fin 0 0 e f
 else if f.line=1 then
  if e.ld (abf e.c f.b 0)=1 then go (e.lm (abf e.c f.b 0)) { f with line:=2 } else fin 0 0 (e.lm (abf e.c f.b 0)) f
 else if f.line=2 then
  if wi (e.now-wi (e.ld (abf e.c f.b 4)))<e.c.age then fin 0 0 (e.lm (abf e.c f.b 4)) f else go (e.lm (abf e.c f.b 4)) { f with line:=3 }
 else if f.line=3 then
  if wi (e.c.levels-1)≤wi (e.ld (abf e.c f.b 1)) then fin 0 0 (e.lm (abf e.c f.b 1)) { f with t:=wi (wi (e.ld (abf e.c f.b 1))+1),u:=e.ld (abf e.c f.b 1) }
  else go (e.lm (abf e.c f.b 1)) { f with line:=4,t:=wi (wi (e.ld (abf e.c f.b 1))+1),u:=e.ld (abf e.c f.b 1) }
 else if f.line=4 then
  if e.hit 3 (abf e.c f.b 1) f.u (wu (f.u+1))=true then go ((e.ac 3 (abf e.c f.b 1) f.u (wu (f.u+1))).em 12 f.a f.b 0 f.t) { f with line:=5 } else fin 4 0 (e.ac 3 (abf e.c f.b 1) f.u (wu (f.u+1))) f
 else go (e.sm (abf e.c f.b 4) (wu e.now)) { f with line:=wi (f.line+1) }
def akm (e:EnvV) (f:FrV):Lf :=
 if f.line=1 then go (e.lm (acY e.c f.a)) { f with line:=2,u:=e.ld (acY e.c f.a) }
 else if f.line=2 then go (e.ac 4 (adn e.c (acs f.a e.c.classes)) (alO f.a) 0) { f with line:=3 }
 else if f.line=3 then
  if e.ld 2=0 then go (e.lm 2) { f with line:=4,n:=0 } else go (e.lm 2) { f with line:=7,n:=0 }
 else if f.line=4 then
  if e.ld (acb e.c f.n)=0 then
   if wi (f.n+1)<e.c.workers then go (e.lm (acb e.c f.n)) { f with line:=4,n:=wi (f.n+1) }
   else go ((e.lm (acb e.c f.n)).em 16 f.a 0 0 0) { f with line:=5,n:=wi (f.n+1),t:=e.now }
  else go (e.lm (acb e.c f.n)) { f with line:=7,n:=wi (f.n+1) }
 else if f.line=5 then
  if e.ld (acY e.c f.a)=f.u then
   if e.c.patience≤wi (e.now-f.t) then go ((e.lm (acY e.c f.a)).em 17 f.a 0 2 0) { f with line:=6 } else go (e.lm (acY e.c f.a)) { f with line:=5 }
  else go ((e.lm (acY e.c f.a)).em 17 f.a 0 1 0) { f with line:=6 }
 else if f.line=6 then fin 1 0 (e.ac 5 (adn e.c (acs f.a e.c.classes)) (az1 (alO f.a)) 0) f
 else fin 5 0 (e.ac 5 (adn e.c (acs f.a e.c.classes)) (az1 (alO f.a)) 0) f
def aeq (e:EnvV) (f:FrV):Int:=adn e.c (acs (wi (axQ f.b e.c.levels e.c.classes+f.j)) e.c.classes)
def apj (e:EnvV) (f:FrV):Lf :=
 if f.line=1 then
  if e.ld (aeq e f)=0 then
   if e.c.classes≤wi (f.j+1) then fin 2 0 (e.lm (aeq e f)) { f with j:=wi (f.j+1) } else go (e.lm (aeq e f)) { f with j:=wi (f.j+1) }
  else go (e.lm (aeq e f)) { f with line:=2,n:=aB3 (e.ld (aeq e f)) }
 else if f.line=2 then
  if aAW (e.rd 5 (aeq e f) (az1 (alO f.n)) 0) f.n=true then go (e.ac 5 (aeq e f) (az1 (alO f.n)) 0) { f with line:=3 } else fin 4 0 (e.ac 5 (aeq e f) (az1 (alO f.n)) 0) f
 else fin 1 f.n ((e.ac 6 (acY e.c f.n) 1 0).em 18 f.a 0 f.n 0) f
def akH (e:EnvV) (f:FrV):Lf :=
 if f.line=1 then
  if wi (e.ld 2)≤0 then fin 2 0 (e.lm 2) f else go (e.lm 2) { f with line:=2 }
 else go (e.lm (abf e.c f.n 1)) { f with line:=5,t:=wi (e.ld (abf e.c f.n 1)) }
def abl (l:List Int):Int:=l.getLast?.getD 0
def ad6 (e:EnvV) (f:FrV):Lf:=if f.l.length=1 then fin 0 0 e { f with line:=1,l:=f.l.dropLast } else go e { f with line:=1,l:=f.l.dropLast }
def agJ (e:EnvV) (f:FrV) (t:Int):Lf :=
 if f.line=17 then go (e.sm (abf e.c t 0) 4) { f with line:=18 }
 else if f.line=18 then
  if e.hit 3 (abf e.c t 2) 0 4294967296=true then ad6 ((e.ac 3 (abf e.c t 2) 0 4294967296).em 10 f.a t 0 0) f
  else go ((e.ac 3 (abf e.c t 2) 0 4294967296).em 10 f.a t 0 0) { f with line:=19 }
 else if acE e (wi (wu (e.ld (abf e.c t 2)-1))) then go (e.lm (abf e.c t 2)) { f with line:=20,n:=wi (wu (e.ld (abf e.c t 2)-1)) }
 else ad6 (e.lm (abf e.c t 2)) { f with n:=wi (wu (e.ld (abf e.c t 2)-1)) }
def aCD (r:RecV) (i:Ins):RecV := 
 if wi ((if r.left=0 then i.a else r.left)-1)=0 then { r with pc:=wi (r.pc+1),left:=wi ((if r.left=0 then i.a else r.left)-1) } else { r with left:=wi ((if r.left=0 then i.a else r.left)-1) }
def ayI (e:EnvV) (f:FrV):Lf :=
 if f.line=23 then fin 4 0 e f
 else if f.line=2 then go ((e.sm (abf e.c (abl f.l) 3) 0).put (abl f.l) { e.rc (abl f.l) with waiting := -1 }) { f with line:=1 }
 else if f.line=3 then go (e.put (abl f.l) (aCD (e.rc (abl f.l)) (e.ins (abl f.l)))) { f with line:=1 }
 else if f.line=4 then go (e.put (abl f.l) { e.rc (abl f.l) with pc:=wi ((e.rc (abl f.l)).pc+1) }) { f with line:=1 }
 else if f.line=10 then go ((e.sm (abf e.c (abl f.l) 3) (wu (wi (f.j+1)))).put (abl f.l) { e.rc (abl f.l) with pc:=wi ((e.rc (abl f.l)).pc+1),waiting:=f.j }) { f with line:=11 }
 else if f.line=11 then go (e.sm (abf e.c (abl f.l) 0) 3) { f with line:=12 }
 else if f.line=12 then
  if e.hit 3 (abf e.c f.j 2) 0 (wu (wi (abl f.l+1)))=true then go ((e.ac 3 (abf e.c f.j 2) 0 (wu (wi (abl f.l+1)))).em 6 f.a (abl f.l) f.j 0) { f with line:=13 }
  else go (e.ac 3 (abf e.c f.j 2) 0 (wu (wi (abl f.l+1)))) { f with line:=15 }
 else if f.line=13 then go (e.lm (abf e.c (abl f.l) 1)) { f with line:=14,t:=wi (e.ld (abf e.c (abl f.l) 1)) }
 else if f.line=15 then go (e.sm (abf e.c (abl f.l) 0) 2) { f with line:=16 }
 else if f.line=16 then go (((e.sm (abf e.c (abl f.l) 3) 0).put (abl f.l) { e.rc (abl f.l) with waiting := -1 }).em 8 f.a (abl f.l) f.j 0) { f with line:=1 }
 else agJ e f (abl f.l)
def EnvV.sub (e:EnvV) (i:Int):Sub:=akM e.c.subs i
def ahB (e:EnvV) (f:FrV):Lf :=
 if (e.c.subs.length:Int)≤f.i then fin 0 0 e f
 else if f.line=2 then
  if e.c.heap≤wi (e.ld 2) then go ((e.lm 2).em 2 e.c.workers 0 f.i 1) { f with line:=8,b:=0 } else go (e.lm 2) { f with line:=3,b:=0 }
 else if f.line=4 then go (e.sm (abf e.c f.n 1) (wu (e.sub f.i).level)) { f with line:=5 }
 else if f.line=5 then go (e.sm (abf e.c f.n 4) (wu e.now)) { f with line:=6 }
 else go (e.sm (abf e.c f.n 0) 1) { f with line:=wi (f.line+1) }
end
end Go.Proofs.YtjjbdbbmdhncjaaGreat
