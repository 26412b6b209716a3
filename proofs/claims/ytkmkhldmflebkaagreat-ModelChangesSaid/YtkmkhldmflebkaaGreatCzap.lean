/- The reference of the model in the evaluator's form. The reference of the model in the evaluator's form. The reference of the model in the evaluator's form. The reference of the model in the evaluator's form. The reference's model: which events fit. The program's model: what its small functions answer. -/
import Derived.Test.YtkmkhldmflebkaaGreatCzai
import Derived.Test.YtkmkhldmflebkaaGreatCzao
import Derived.Test.YtkmkhldmflebkaaGreatCzah
set_option linter.all false
namespace Go.Proofs.YtkmkhldmflebkaaGreat
section
open Go Go.RowKit
set_option maxRecDepth 100000
variable [Tb]
abbrev aa1 (xs:List TkV) (i:Int):List TkV:=xs.set i.toNat (aaa xs i)
abbrev abv (xs:List TkV) (i:Int) (f:TkV→TkV):List TkV:=xs.set i.toNat (f (aaa xs i))
abbrev abP (xs:List WlV) (i:Int):List WlV:=xs.set i.toNat (aac xs i)
abbrev ac8 (xs:List WlV) (i:Int) (f:WlV→WlV):List WlV:=xs.set i.toNat (f (aac xs i))
noncomputable abbrev ag2 {α:Type} (x:Option α):Option α:=agr x x
noncomputable def act (y0:QuV):Option ((Int×Unit)×(QuV×Unit)) :=
 (lpF (σ:=Int×Int×QuV×Unit) (β:=Int×Int×QuV×Unit) (fun self3 x1 =>
  if x1.2.1<((x1.2.2.1.keys.length:Nat):Int) then
   if 0≤x1.2.1∧x1.2.1<((x1.2.2.1.keys.length:Nat):Int) then
   if 0≤x1.1∧x1.1<((x1.2.2.1.keys.length:Nat):Int) then
   ag2 (
   if ((abi x1.2.2.1.keys x1.1).deadline)=((abi x1.2.2.1.keys x1.1).deadline) then
   if ((abi x1.2.2.1.keys x1.1).arrival)=((abi x1.2.2.1.keys x1.1).arrival) then
   if ((abi x1.2.2.1.keys x1.1).task)=((abi x1.2.2.1.keys x1.1).task) then
   if ((abi x1.2.2.1.keys x1.2.1).deadline)=((abi x1.2.2.1.keys x1.2.1).deadline) then
   if ((abi x1.2.2.1.keys x1.2.1).arrival)=((abi x1.2.2.1.keys x1.2.1).arrival) then
   if ((abi x1.2.2.1.keys x1.2.1).task)=((abi x1.2.2.1.keys x1.2.1).task) then
   if ((abi x1.2.2.1.keys x1.1).deadline)=((abi x1.2.2.1.keys x1.1).deadline) then
   if ((abi x1.2.2.1.keys x1.1).arrival)=((abi x1.2.2.1.keys x1.1).arrival) then
   if ((abi x1.2.2.1.keys x1.1).task)=((abi x1.2.2.1.keys x1.1).task) then
   if ((abi x1.2.2.1.keys x1.2.1).deadline)=((abi x1.2.2.1.keys x1.2.1).deadline) then
   if ((abi x1.2.2.1.keys x1.2.1).arrival)=((abi x1.2.2.1.keys x1.2.1).arrival) then
   if ((abi x1.2.2.1.keys x1.2.1).task)=((abi x1.2.2.1.keys x1.2.1).task) then
   if ((abi x1.2.2.1.keys x1.1).deadline)=((abi x1.2.2.1.keys x1.1).deadline) then
   if ((abi x1.2.2.1.keys x1.1).arrival)=((abi x1.2.2.1.keys x1.1).arrival) then
   if ((abi x1.2.2.1.keys x1.1).task)=((abi x1.2.2.1.keys x1.1).task) then
   if ((abi x1.2.2.1.keys x1.2.1).deadline)<((abi x1.2.2.1.keys x1.1).deadline) then
   self3 (x1.2.1,wi (x1.2.1+1),x1.2.2.1,())
   else
   if ((abi x1.2.2.1.keys x1.2.1).deadline)=((abi x1.2.2.1.keys x1.1).deadline) then
   if ((abi x1.2.2.1.keys x1.2.1).arrival)<((abi x1.2.2.1.keys x1.1).arrival) then
   self3 (x1.2.1,wi (x1.2.1+1),x1.2.2.1,())
   else
   self3 (x1.1,wi (x1.2.1+1),x1.2.2.1,())
   else
   self3 (x1.1,wi (x1.2.1+1),x1.2.2.1,())
   else none
   else none
   else none
   else none
   else none
   else none
   else none
   else none
   else none
   else none
   else none
   else none
   else none
   else none
   else none
   )
   else none
   else none
  else
  some (x1.1,x1.2.1,x1.2.2.1,())
 ) 18446744073709551616 (0,1,y0,())).bind fun z2 =>
 some ((z2.1,()),(z2.2.2.1,()))
noncomputable abbrev ac6:Con SR1:=⟨143,[.ref 65],[.sh sI_],fun x =>act x.1⟩
theorem aet:CO Tryz.prog ac6:=aaC aaB Tryz.func143 [] trivial [] trivial (fun _ =>[]) [(3,.loop [.rg 3 sI_,.rg 4 sI_,.ob 0 65] 18446744073709551616 0)] fun x =>by kernel_rfl
noncomputable def aaX (y0:QuV):Option ((Int×Unit)×(QuV×Unit)) :=
 (lpF (σ:=Int×Int×QuV×Unit) (β:=Int×Int×QuV×Unit) (fun self3 x1 =>
  if x1.2.1<((x1.2.2.1.keys.length:Nat):Int) then
   if 0≤x1.2.1∧x1.2.1<((x1.2.2.1.keys.length:Nat):Int) then
   if 0≤x1.1∧x1.1<((x1.2.2.1.keys.length:Nat):Int) then
   if ((abi x1.2.2.1.keys x1.2.1).deadline)<((abi x1.2.2.1.keys x1.1).deadline) then
   self3 (x1.2.1,wi (x1.2.1+1),x1.2.2.1,())
   else
   if ((abi x1.2.2.1.keys x1.2.1).deadline)=((abi x1.2.2.1.keys x1.1).deadline) then
   if ((abi x1.2.2.1.keys x1.2.1).arrival)<((abi x1.2.2.1.keys x1.1).arrival) then
   self3 (x1.2.1,wi (x1.2.1+1),x1.2.2.1,())
   else
   self3 (x1.1,wi (x1.2.1+1),x1.2.2.1,())
   else
   self3 (x1.1,wi (x1.2.1+1),x1.2.2.1,())
   else none
   else none
  else
  some (x1.1,x1.2.1,x1.2.2.1,())
 ) 18446744073709551616 (0,1,y0,())).bind fun z2 =>
 some ((z2.1,()),(z2.2.2.1,()))
noncomputable abbrev adB:Con SR1:=⟨143,[.ref 65],[.sh sI_],fun x =>aaX x.1⟩
theorem ae5 (y0:QuV):act y0=aaX y0:=by
 unfold act aaX
 simp only [ag2,if_true,acL,ad9]
 try rfl
theorem ae4:CO Tryz.prog adB:=apD aet fun x out hx =>(show ac6.spec x=some out from (ae5 x.1).trans hx)
noncomputable def acv (y0:QuV) (y1:Cfg) (y2:Ev):Option ((Bool×Unit)×(QuV×Unit)) :=
 if y2.kind=1 then
  ((
   if y2.other<0 then
   some (true,y0,())
   else
   if ((y1.subs.length:Nat):Int)≤y2.other then
   some (true,y0,())
   else
   some (decide (y1.heap≤((y0.keys.length:Nat):Int)),y0,())
  ):Option (Bool×QuV×Unit)).bind fun z1 =>
  if z1.1=true then
   some ((false,()),(z1.2.1,()))
  else
  if 0≤y2.other∧y2.other<((y1.subs.length:Nat):Int) then
   agr (
   if y2.task=y2.task then
   if z1.2.1.count=z1.2.1.count then
   if ((acK y1.subs y2.other).deadline)=((acK y1.subs y2.other).deadline) then
   if y2.other=y2.other then
   ag2 (
   if (((([]:List KyV).length+z1.2.1.keys.length:Nat)):Int)<1000000000000 then
   if y2.task=y2.task then
   if z1.2.1.count=z1.2.1.count then
   if ((acK y1.subs y2.other).deadline)=((acK y1.subs y2.other).deadline) then
   if y2.other=y2.other then
   if ((((([])++z1.2.1.keys).length+([(⟨(acK y1.subs y2.other).deadline,z1.2.1.count,y2.task⟩:KyV)]:List KyV).length:Nat)):Int)<1000000000000 then
   some ((true,()),((⟨(([])++z1.2.1.keys)++([(⟨(acK y1.subs y2.other).deadline,z1.2.1.count,y2.task⟩:KyV)]),wi (z1.2.1.count+1)⟩:QuV),()))
   else none
   else none
   else none
   else none
   else none
   else none
   )
   else none
   else none
   else none
   else none
   ) (
   if y2.task=y2.task then
   if z1.2.1.count=z1.2.1.count then
   if ((acK y1.subs y2.other).deadline)=((acK y1.subs y2.other).deadline) then
   if y2.other=y2.other then
   if (((([]:List KyV).length+z1.2.1.keys.length:Nat)):Int)<1000000000000 then
   if y2.task=y2.task then
   if z1.2.1.count=z1.2.1.count then
   if ((acK y1.subs y2.other).deadline)=((acK y1.subs y2.other).deadline) then
   if y2.other=y2.other then
   if ((((([])++z1.2.1.keys).length+([(⟨(acK y1.subs y2.other).deadline,z1.2.1.count,y2.task⟩:KyV)]:List KyV).length:Nat)):Int)<1000000000000 then
   some ((true,()),((⟨(([])++z1.2.1.keys)++([(⟨(acK y1.subs y2.other).deadline,z1.2.1.count,y2.task⟩:KyV)]),wi (z1.2.1.count+1)⟩:QuV),()))
   else none
   else none
   else none
   else none
   else none
   else none
   else none
   else none
   else none
   else none
   )
  else none
 else
 if y2.kind=13 then
  if ((y0.keys.length:Nat):Int)=0 then
   some ((false,()),(y0,()))
  else
  (aaX y0).bind fun r2 =>
  if 0≤r2.1.1∧r2.1.1<((r2.2.1.keys.length:Nat):Int) then
   if ((abi r2.2.1.keys r2.1.1).task)≠y2.task then
   some ((false,()),(r2.2.1,()))
   else
   if 0≤r2.1.1∧r2.1.1≤((r2.2.1.keys.length:Nat):Int) then
   if 0≤wi (r2.1.1+1)∧wi (r2.1.1+1)≤((r2.2.1.keys.length:Nat):Int) then
   if (((([]:List KyV).length+(r2.2.1.keys.take (r2.1.1:Int).toNat).length:Nat)):Int)<1000000000000 then
   if ((((([])++(r2.2.1.keys.take (r2.1.1:Int).toNat)).length+(r2.2.1.keys.drop (wi (r2.1.1+1):Int).toNat).length:Nat)):Int)<1000000000000 then
   some ((true,()),((⟨(([])++(r2.2.1.keys.take (r2.1.1:Int).toNat))++(r2.2.1.keys.drop (wi (r2.1.1+1):Int).toNat),r2.2.1.count⟩:QuV),()))
   else none
   else none
   else none
   else none
  else none
 else
 if y2.kind=2 then
  if y2.level≠1 then
   some ((true,()),(y0,()))
  else
  some ((decide (((y0.keys.length:Nat):Int)=y1.heap),()),(y0,()))
 else
 some ((true,()),(y0,()))
noncomputable abbrev ac7:Con SR1:=⟨95,[.ref 65,.val 13,.val 2],[.sh .b],fun x =>acv x.1 x.2.1 x.2.2.1⟩
theorem aeu:CO Tryz.prog ac7:=aaC aaB Tryz.func95 [adB] ⟨ae4,trivial⟩ [] trivial (fun _ =>[]) [(4,.cut [.rg 32 .b,.ob 0 65] [10,11,17,18])] fun x =>by kernel_rfl
noncomputable def aaF (y0:QuV) (y1:Cfg) (y2:Ev):Option ((Bool×Unit)×(QuV×Unit)) :=
 if y2.kind=1 then
  ((
   if y2.other<0 then
   some (true,y0,())
   else
   if ((y1.subs.length:Nat):Int)≤y2.other then
   some (true,y0,())
   else
   some (decide (y1.heap≤((y0.keys.length:Nat):Int)),y0,())
  ):Option (Bool×QuV×Unit)).bind fun z1 =>
  if z1.1=true then
   some ((false,()),(z1.2.1,()))
  else
  if 0≤y2.other∧y2.other<((y1.subs.length:Nat):Int) then
   if (((([]:List KyV).length+z1.2.1.keys.length:Nat)):Int)<1000000000000 then
   if ((((([])++z1.2.1.keys).length+([(⟨(acK y1.subs y2.other).deadline,z1.2.1.count,y2.task⟩:KyV)]:List KyV).length:Nat)):Int)<1000000000000 then
   some ((true,()),((⟨(([])++z1.2.1.keys)++([(⟨(acK y1.subs y2.other).deadline,z1.2.1.count,y2.task⟩:KyV)]),wi (z1.2.1.count+1)⟩:QuV),()))
   else none
   else none
  else none
 else
 if y2.kind=13 then
  if ((y0.keys.length:Nat):Int)=0 then
   some ((false,()),(y0,()))
  else
  (aaX y0).bind fun r2 =>
  if 0≤r2.1.1∧r2.1.1<((r2.2.1.keys.length:Nat):Int) then
   if ((abi r2.2.1.keys r2.1.1).task)≠y2.task then
   some ((false,()),(r2.2.1,()))
   else
   if 0≤r2.1.1∧r2.1.1≤((r2.2.1.keys.length:Nat):Int) then
   if 0≤wi (r2.1.1+1)∧wi (r2.1.1+1)≤((r2.2.1.keys.length:Nat):Int) then
   if (((([]:List KyV).length+(r2.2.1.keys.take (r2.1.1:Int).toNat).length:Nat)):Int)<1000000000000 then
   if ((((([])++(r2.2.1.keys.take (r2.1.1:Int).toNat)).length+(r2.2.1.keys.drop (wi (r2.1.1+1):Int).toNat).length:Nat)):Int)<1000000000000 then
   some ((true,()),((⟨(([])++(r2.2.1.keys.take (r2.1.1:Int).toNat))++(r2.2.1.keys.drop (wi (r2.1.1+1):Int).toNat),r2.2.1.count⟩:QuV),()))
   else none
   else none
   else none
   else none
  else none
 else
 if y2.kind=2 then
  if y2.level≠1 then
   some ((true,()),(y0,()))
  else
  some ((decide (((y0.keys.length:Nat):Int)=y1.heap),()),(y0,()))
 else
 some ((true,()),(y0,()))
noncomputable abbrev acu:Con SR1:=⟨95,[.ref 65,.val 13,.val 2],[.sh .b],fun x =>aaF x.1 x.2.1 x.2.2.1⟩
theorem ae6 (y0:QuV) (y1:Cfg) (y2:Ev):acv y0 y1 y2=aaF y0 y1 y2:=by
 unfold acv aaF
 simp only [ag2,if_true,acL,ad9]
 try rfl
theorem adf:CO Tryz.prog acu:=apD aeu fun x out hx =>(show ac7.spec x=some out from (ae6 x.1 x.2.1 x.2.2.1).trans hx)
noncomputable def acM (y0:Cfg):Option ((SaV×Unit)×(Unit)) :=
 (lpF (σ:=Int×SaV×Unit) (β:=Int×SaV×Unit) (fun self3 x1 =>
  if x1.1<y0.tasks then
   if (((x1.2.1.tasks.length+([(⟨⟨0,(-1),(-1),(-1),(-1)⟩,0,0,[]⟩:TkV)]:List TkV).length:Nat)):Int)<100000000000 then
   self3 (wi (x1.1+1),({ x1.2.1 with tasks:=x1.2.1.tasks++([(⟨⟨0,(-1),(-1),(-1),(-1)⟩,0,0,[]⟩:TkV)]) }:SaV),())
   else none
  else
  some (x1.1,x1.2.1,())
 ) 18446744073709551616 (0,(⟨y0,[],[],⟨[],0⟩,0⟩:SaV),())).bind fun z2 =>
 (lpF (σ:=Int×SaV×Unit) (β:=Int×SaV×Unit) (fun self6 x4 =>
  if x4.1<y0.workers then
   if (((x4.2.1.works.length+([(⟨[],(-1),0,0,false,⟨0,0,0,0,0⟩⟩:WlV)]:List WlV).length:Nat)):Int)<100000000000 then
   self6 (wi (x4.1+1),({ x4.2.1 with works:=x4.2.1.works++([(⟨[],(-1),0,0,false,⟨0,0,0,0,0⟩⟩:WlV)]) }:SaV),())
   else none
  else
  some (x4.1,x4.2.1,())
 ) 18446744073709551616 (0,z2.2.1,())).bind fun z5 =>
 some ((z5.2.1,()),())
noncomputable abbrev ae3:Con SR1:=⟨36,[.val 13],[.sh (.own 64)],fun x =>acM x.1⟩
theorem ahz:CO Tryz.prog ae3:=aaC aaB Tryz.func36 [] trivial [] trivial (fun _ =>[]) [(3,.loop [.rg 4 sI_,.rg 3 (.own 64)] 18446744073709551616 0),(7,.loop [.rg 5 sI_,.rg 3 (.own 64)] 18446744073709551616 2)] fun x =>by kernel_rfl
noncomputable def aaE (y0:SaV):Option ((Int×Unit)×(SaV×Unit)) :=
 (lpF (σ:=Int×Int×SaV×Unit) (β:=Int×Int×SaV×Unit) (fun self3 x1 =>
  if x1.2.1<((x1.2.2.1.tasks.length:Nat):Int) then
   if 0≤x1.2.1∧x1.2.1<((x1.2.2.1.tasks.length:Nat):Int) then
   if ((aaa x1.2.2.1.tasks x1.2.1).view.phase)≠0 then
   self3 (wi (x1.1+1),wi (x1.2.1+1),x1.2.2.1,())
   else
   self3 (x1.1,wi (x1.2.1+1),x1.2.2.1,())
   else none
  else
  some (x1.1,x1.2.1,x1.2.2.1,())
 ) 18446744073709551616 (0,0,y0,())).bind fun z2 =>
 some ((z2.1,()),(z2.2.2.1,()))
noncomputable abbrev acq:Con SR1:=⟨136,[.ref 64],[.sh sI_],fun x =>aaE x.1⟩
theorem adb:CO Tryz.prog acq:=aaC aaB Tryz.func136 [] trivial [] trivial (fun _ =>[]) [(3,.loop [.rg 3 sI_,.rg 4 sI_,.ob 0 64] 18446744073709551616 0)] fun x =>by kernel_rfl
noncomputable def adQ (y0:Int):Option ((Bool×Bool×Bool×Bool×Unit)×(Unit)) :=
 if y0=1 then
  some ((true,true,true,false,()),())
 else
 if y0=2 then
  some ((false,true,true,false,()),())
 else
 if y0=3 then
  some ((true,true,true,true,()),())
 else
 ((
  if y0=6 then
   some (decide (y0=6),())
  else
  some (decide (y0=8),())
 ):Option (Bool×Unit)).bind fun z1 =>
 if z1.1=true then
  some ((true,true,false,true,()),())
 else
 ((
  if y0=7 then
   some (decide (y0=7),())
  else
  if y0=11 then
   some (decide (y0=11),())
  else
  if y0=12 then
   some (decide (y0=12),())
  else
  some (decide (y0=19),())
 ):Option (Bool×Unit)).bind fun z2 =>
 if z2.1=true then
  some ((true,false,true,false,()),())
 else
 if y0=14 then
  some ((true,true,true,false,()),())
 else
 if y0=16 then
  some ((false,false,false,false,()),())
 else
 ((
  if y0=17 then
   some (decide (y0=17),())
  else
  some (decide (y0=18),())
 ):Option (Bool×Unit)).bind fun z3 =>
 if z3.1=true then
  some ((false,true,false,false,()),())
 else
 some ((true,false,false,false,()),())
noncomputable abbrev aeB:Con SR1:=⟨86,[.sh sI_],[.sh .b,.sh .b,.sh .b,.sh .b],fun x =>adQ x.1⟩
theorem agK:CO Tryz.prog aeB:=aaC aaB Tryz.func86 [] trivial [] trivial (fun _ =>[]) [(10,.cut [.rg 13 .b] []),(15,.cut [.rg 16 .b] []),(22,.cut [.rg 25 .b] [])] fun x =>by kernel_rfl
noncomputable def aad (y0:SaV) (y1:Ev):Option ((Bool×Unit)×(SaV×Unit)) :=
 if y1.kind<1 then
  some ((false,()),(y0,()))
 else
 if 19<y1.kind then
  some ((false,()),(y0,()))
 else
 (adQ y1.kind).bind fun r1 =>
 ((
  if r1.1.1=true then
   if 0≤y1.task then
   if ¬ (y1.task<((y0.tasks.length:Nat):Int)) then
   some (true,y0,())
   else
   if (!r1.1.1)=true then
   if y1.task≠0 then
   some (true,y0,())
   else
   if (!r1.1.2.1)=true then
   if y1.other≠0 then
   some (true,y0,())
   else
   if r1.1.2.2.2.1=true then
   if 0≤y1.other then
   if ¬ (y1.other<((y0.tasks.length:Nat):Int)) then
   some (true,y0,())
   else
   if (!r1.1.2.2.1)=true then
   some (decide (y1.level≠0),y0,())
   else
   some (false,y0,())
   else
   some (true,y0,())
   else
   if (!r1.1.2.2.1)=true then
   some (decide (y1.level≠0),y0,())
   else
   some (false,y0,())
   else
   if r1.1.2.2.2.1=true then
   if 0≤y1.other then
   if ¬ (y1.other<((y0.tasks.length:Nat):Int)) then
   some (true,y0,())
   else
   if (!r1.1.2.2.1)=true then
   some (decide (y1.level≠0),y0,())
   else
   some (false,y0,())
   else
   some (true,y0,())
   else
   if (!r1.1.2.2.1)=true then
   some (decide (y1.level≠0),y0,())
   else
   some (false,y0,())
   else
   if (!r1.1.2.1)=true then
   if y1.other≠0 then
   some (true,y0,())
   else
   if r1.1.2.2.2.1=true then
   if 0≤y1.other then
   if ¬ (y1.other<((y0.tasks.length:Nat):Int)) then
   some (true,y0,())
   else
   if (!r1.1.2.2.1)=true then
   some (decide (y1.level≠0),y0,())
   else
   some (false,y0,())
   else
   some (true,y0,())
   else
   if (!r1.1.2.2.1)=true then
   some (decide (y1.level≠0),y0,())
   else
   some (false,y0,())
   else
   if r1.1.2.2.2.1=true then
   if 0≤y1.other then
   if ¬ (y1.other<((y0.tasks.length:Nat):Int)) then
   some (true,y0,())
   else
   if (!r1.1.2.2.1)=true then
   some (decide (y1.level≠0),y0,())
   else
   some (false,y0,())
   else
   some (true,y0,())
   else
   if (!r1.1.2.2.1)=true then
   some (decide (y1.level≠0),y0,())
   else
   some (false,y0,())
   else
   some (true,y0,())
  else
  if (!r1.1.1)=true then
   if y1.task≠0 then
   some (true,y0,())
   else
   if (!r1.1.2.1)=true then
   if y1.other≠0 then
   some (true,y0,())
   else
   if r1.1.2.2.2.1=true then
   if 0≤y1.other then
   if ¬ (y1.other<((y0.tasks.length:Nat):Int)) then
   some (true,y0,())
   else
   if (!r1.1.2.2.1)=true then
   some (decide (y1.level≠0),y0,())
   else
   some (false,y0,())
   else
   some (true,y0,())
   else
   if (!r1.1.2.2.1)=true then
   some (decide (y1.level≠0),y0,())
   else
   some (false,y0,())
   else
   if r1.1.2.2.2.1=true then
   if 0≤y1.other then
   if ¬ (y1.other<((y0.tasks.length:Nat):Int)) then
   some (true,y0,())
   else
   if (!r1.1.2.2.1)=true then
   some (decide (y1.level≠0),y0,())
   else
   some (false,y0,())
   else
   some (true,y0,())
   else
   if (!r1.1.2.2.1)=true then
   some (decide (y1.level≠0),y0,())
   else
   some (false,y0,())
  else
  if (!r1.1.2.1)=true then
   if y1.other≠0 then
   some (true,y0,())
   else
   if r1.1.2.2.2.1=true then
   if 0≤y1.other then
   if ¬ (y1.other<((y0.tasks.length:Nat):Int)) then
   some (true,y0,())
   else
   if (!r1.1.2.2.1)=true then
   some (decide (y1.level≠0),y0,())
   else
   some (false,y0,())
   else
   some (true,y0,())
   else
   if (!r1.1.2.2.1)=true then
   some (decide (y1.level≠0),y0,())
   else
   some (false,y0,())
  else
  if r1.1.2.2.2.1=true then
   if 0≤y1.other then
   if ¬ (y1.other<((y0.tasks.length:Nat):Int)) then
   some (true,y0,())
   else
   if (!r1.1.2.2.1)=true then
   some (decide (y1.level≠0),y0,())
   else
   some (false,y0,())
   else
   some (true,y0,())
  else
  if (!r1.1.2.2.1)=true then
   some (decide (y1.level≠0),y0,())
  else
  some (false,y0,())
 ):Option (Bool×SaV×Unit)).bind fun z2 =>
 if z2.1=true then
  some ((false,()),(z2.2.1,()))
 else
 ((
  if r1.1.2.2.1=true then
   if y1.kind≠2 then
   if y1.level<0 then
   some (true,z2.2.1,())
   else
   some (decide (z2.2.1.c.levels≤y1.level),z2.2.1,())
   else
   some (false,z2.2.1,())
  else
  some (false,z2.2.1,())
 ):Option (Bool×SaV×Unit)).bind fun z3 =>
 if z3.1=true then
  some ((false,()),(z3.2.1,()))
 else
 if y1.worker=z3.2.1.c.workers then
  if y1.kind=1 then
   some ((true,()),(z3.2.1,()))
  else
  if y1.kind=2 then
   some ((true,()),(z3.2.1,()))
  else
  some ((decide (y1.kind=18),()),(z3.2.1,()))
 else
 if 0≤y1.worker then
  if y1.worker<z3.2.1.c.workers then
   if 0≤y1.worker∧y1.worker<((z3.2.1.works.length:Nat):Int) then
   some ((decide (((aac z3.2.1.works y1.worker).sleeps)=(decide (y1.kind=17))),()),(({ z3.2.1 with works:=abP z3.2.1.works y1.worker }:SaV),()))
   else none
  else
  some ((false,()),(z3.2.1,()))
 else
 some ((false,()),(z3.2.1,()))
noncomputable abbrev adI:Con SR1:=⟨65,[.ref 64,.val 2],[.sh .b],fun x =>aad x.1 x.2.1⟩
noncomputable def afp:List (Nat×Func):=[(87,Tryz.f87)]
theorem afq:CO Tryz.prog adI:=aaC aaB Tryz.func65 [aeB] ⟨agK,trivial⟩ afp ⟨Tryz.func87,trivial⟩ (fun _ =>[]) [(5,.cut [.rg 69 .b,.ob 0 64] [6]),(7,.cut [.rg 90 .b,.ob 0 64] [6])] fun x =>by kernel_rfl
noncomputable def aaA (y0:SaV) (y1:Int):Option ((Ins×Bool×Unit)×(SaV×Unit)) :=
 if 0≤y1∧y1<((y0.tasks.length:Nat):Int) then
  if 0≤(aaa y0.tasks y1).prog∧(aaa y0.tasks y1).prog<((y0.c.progs.length:Nat):Int) then
   (lpF (σ:=List TkV×Ins×Unit) (β:=(List TkV×Ins×Unit)⊕((Ins×Bool×Unit)×(SaV×Unit))) (fun self3 x1 =>
   if ((aaa x1.1 y1).pc)<(((atL [] y0.c.progs ((aaa y0.tasks y1).prog)).length:Nat):Int) then
   if 0≤(aaa x1.1 y1).pc∧(aaa x1.1 y1).pc<(((atL [] y0.c.progs ((aaa y0.tasks y1).prog)).length:Nat):Int) then
   if ((acA (atL [] y0.c.progs ((aaa y0.tasks y1).prog)) ((aaa x1.1 y1).pc)).op)=1 then
   Option.map Sum.inr (
   some ((acA (atL [] y0.c.progs ((aaa y0.tasks y1).prog)) ((aaa x1.1 y1).pc),true,()),(({ y0 with tasks:=x1.1 }:SaV),()))
   )
   else
   if ((acA (atL [] y0.c.progs ((aaa y0.tasks y1).prog)) ((aaa x1.1 y1).pc)).op)=2 then
   if ((acA (atL [] y0.c.progs ((aaa y0.tasks y1).prog)) ((aaa x1.1 y1).pc)).a)<((((aaa x1.1 y1).kids).length:Nat):Int) then
   if 0≤(acA (atL [] y0.c.progs ((aaa y0.tasks y1).prog)) ((aaa x1.1 y1).pc)).a∧(acA (atL [] y0.c.progs ((aaa y0.tasks y1).prog)) ((aaa x1.1 y1).pc)).a<((((aaa x1.1 y1).kids).length:Nat):Int) then
   if (aaf ((aaa x1.1 y1).kids) ((acA (atL [] y0.c.progs ((aaa y0.tasks y1).prog)) ((aaa x1.1 y1).pc)).a))≠(-1) then
   Option.map Sum.inr (
   some ((acA (atL [] y0.c.progs ((aaa y0.tasks y1).prog)) ((aaa x1.1 y1).pc),true,()),(({ y0 with tasks:=aa1 x1.1 y1 }:SaV),()))
   )
   else
   self3 (abv x1.1 y1 (fun x =>{ x with pc:=wi ((x.pc)+1) }),x1.2.1,())
   else none
   else
   self3 (abv x1.1 y1 (fun x =>{ x with pc:=wi ((x.pc)+1) }),x1.2.1,())
   else
   self3 (abv x1.1 y1 (fun x =>{ x with pc:=wi ((x.pc)+1) }),x1.2.1,())
   else none
   else
   some (Sum.inl (x1.1,x1.2.1,()))
   ) 18446744073709551616 (aa1 y0.tasks y1,(⟨0,0,0⟩:Ins),())).bind fun z2 =>match z2 with
   | .inr o4 =>some o4
   | .inl z2 =>
   some (((⟨0,0,0⟩:Ins),false,()),(({ y0 with tasks:=z2.1 }:SaV),()))
  else none
 else none
noncomputable abbrev abM:Con SR1:=⟨139,[.ref 64,.sh sI_],[.val 3,.sh .b],fun x =>aaA x.1 x.2.1⟩
theorem ab6:CO Tryz.prog abM:=aaC aaB Tryz.func139 [] trivial [] trivial (fun _ =>[]) [(3,.loopR [.rw 3 61,.ob 1000004 3] 18446744073709551616 0)] fun x =>by kernel_rfl
noncomputable def aaO (y0:SaV) (y1:Int) (y2:Int):Option ((Bool×Unit)×(SaV×Unit)) :=
 if y1<0 then
  some ((false,()),(y0,()))
 else
 if ((y0.works.length:Nat):Int)≤y1 then
  some ((false,()),(y0,()))
 else
 if 0≤y1∧y1<((y0.works.length:Nat):Int) then
  if 0<((((aac y0.works y1).stack).length:Nat):Int) then
   if 0≤wi (((((aac y0.works y1).stack).length:Nat):Int)-1)∧wi (((((aac y0.works y1).stack).length:Nat):Int)-1)<((((aac y0.works y1).stack).length:Nat):Int) then
   some ((decide ((aaf ((aac y0.works y1).stack) (wi (((((aac y0.works y1).stack).length:Nat):Int)-1)))=y2),()),(({ y0 with works:=abP y0.works y1 }:SaV),()))
   else none
  else
  some ((false,()),(({ y0 with works:=abP y0.works y1 }:SaV),()))
 else none
noncomputable abbrev abZ:Con SR1:=⟨138,[.ref 64,.sh sI_,.sh sI_],[.sh .b],fun x =>aaO x.1 x.2.1 x.2.2.1⟩
theorem aco:CO Tryz.prog abZ:=aaC aaB Tryz.func138 [] trivial [] trivial (fun _ =>[]) [] fun x =>by kernel_rfl
noncomputable def abq (y0:SaV) (y1:Int):Option ((Bool×Unit)×(SaV×Unit)) :=
 if 0≤y1 then
  if y1<((y0.works.length:Nat):Int) then
   if 0≤y1∧y1<((y0.works.length:Nat):Int) then
   if ((((aac y0.works y1).stack).length:Nat):Int)=0 then
   if 0≤y1∧y1<(((abP y0.works y1).length:Nat):Int) then
   some ((decide (((aac (abP y0.works y1) y1).walk)=(-1)),()),(({ y0 with works:=abP y0.works y1 }:SaV),()))
   else none
   else
   some ((false,()),(({ y0 with works:=abP y0.works y1 }:SaV),()))
   else none
  else
  some ((false,()),(y0,()))
 else
 some ((false,()),(y0,()))
noncomputable abbrev adH:Con SR1:=⟨94,[.ref 64,.sh sI_],[.sh .b],fun x =>abq x.1 x.2.1⟩
theorem afo:CO Tryz.prog adH:=aaC aaB Tryz.func94 [] trivial [] trivial (fun _ =>[]) [] fun x =>by kernel_rfl
noncomputable def aaR (y0:SaV) (y1:Int) (y2:Int) (y3:Int) (y4:Int):Option ((Unit)×(SaV×Unit)) :=
 if 0≤y1∧y1<((y0.tasks.length:Nat):Int) then
  some ((()),(({ y0 with tasks:=y0.tasks.set y1.toNat (⟨⟨1,y2,y4,(-1),(-1)⟩,y3,0,[]⟩:TkV) }:SaV),()))
 else none
noncomputable abbrev acr:Con SR1:=⟨137,[.ref 64,.sh sI_,.sh sI_,.sh sI_,.sh sI_],[],fun x =>aaR x.1 x.2.1 x.2.2.1 x.2.2.2.1 x.2.2.2.2.1⟩
theorem ade:CO Tryz.prog acr:=aaC aaB Tryz.func137 [] trivial [] trivial (fun _ =>[]) [] fun x =>by kernel_rfl
noncomputable def acD (y0:SaV) (y1:Int) (y2:Int):Option ((Unit)×(SaV×Unit)) :=
 if 0≤y2∧y2<((y0.tasks.length:Nat):Int) then
  if 0≤y2∧y2<(((abv y0.tasks y2 (fun x =>{ x with view:={ x.view with phase:=2 } })).length:Nat):Int) then
   if 0≤y2∧y2<(((abv (abv y0.tasks y2 (fun x =>{ x with view:={ x.view with phase:=2 } })) y2 (fun x =>{ x with view:={ x.view with worker:=y1 } })).length:Nat):Int) then
   if 0≤y1∧y1<((y0.works.length:Nat):Int) then
   agr (
   ag2 (
   if (((([]:List Int).length+((aac y0.works y1).stack).length:Nat)):Int)<1000000000000 then
   if ((((([])++((aac y0.works y1).stack)).length+([y2]:List Int).length:Nat)):Int)<1000000000000 then
   if 0≤y1∧y1<(((abP y0.works y1).length:Nat):Int) then
   some ((()),(({ y0 with tasks:=abv (abv (abv y0.tasks y2 (fun x =>{ x with view:={ x.view with phase:=2 } })) y2 (fun x =>{ x with view:={ x.view with worker:=y1 } })) y2 (fun x =>{ x with view:={ x.view with other:=(-1) } }),works:=ac8 (abP y0.works y1) y1 (fun x =>{ x with stack:=(([])++((aac y0.works y1).stack))++([y2]) }) }:SaV),()))
   else none
   else none
   else none
   )
   ) (
   if (((([]:List Int).length+((aac y0.works y1).stack).length:Nat)):Int)<1000000000000 then
   if ((((([])++((aac y0.works y1).stack)).length+([y2]:List Int).length:Nat)):Int)<1000000000000 then
   if 0≤y1∧y1<(((abP y0.works y1).length:Nat):Int) then
   some ((()),(({ y0 with tasks:=abv (abv (abv y0.tasks y2 (fun x =>{ x with view:={ x.view with phase:=2 } })) y2 (fun x =>{ x with view:={ x.view with worker:=y1 } })) y2 (fun x =>{ x with view:={ x.view with other:=(-1) } }),works:=ac8 (abP y0.works y1) y1 (fun x =>{ x with stack:=(([])++((aac y0.works y1).stack))++([y2]) }) }:SaV),()))
   else none
   else none
   else none
   )
   else none
   else none
  else none
 else none
noncomputable abbrev ada:Con SR1:=⟨141,[.ref 64,.sh sI_,.sh sI_],[],fun x =>acD x.1 x.2.1 x.2.2.1⟩
theorem aeE:CO Tryz.prog ada:=aaC aaB Tryz.func141 [] trivial [] trivial (fun _ =>[]) [] fun x =>by kernel_rfl
noncomputable def aar (y0:SaV) (y1:Int) (y2:Int):Option ((Unit)×(SaV×Unit)) :=
 if 0≤y2∧y2<((y0.tasks.length:Nat):Int) then
  if 0≤y2∧y2<(((abv y0.tasks y2 (fun x =>{ x with view:={ x.view with phase:=2 } })).length:Nat):Int) then
   if 0≤y2∧y2<(((abv (abv y0.tasks y2 (fun x =>{ x with view:={ x.view with phase:=2 } })) y2 (fun x =>{ x with view:={ x.view with worker:=y1 } })).length:Nat):Int) then
   if 0≤y1∧y1<((y0.works.length:Nat):Int) then
   if (((([]:List Int).length+((aac y0.works y1).stack).length:Nat)):Int)<1000000000000 then
   if ((((([])++((aac y0.works y1).stack)).length+([y2]:List Int).length:Nat)):Int)<1000000000000 then
   if 0≤y1∧y1<(((abP y0.works y1).length:Nat):Int) then
   some ((()),(({ y0 with tasks:=abv (abv (abv y0.tasks y2 (fun x =>{ x with view:={ x.view with phase:=2 } })) y2 (fun x =>{ x with view:={ x.view with worker:=y1 } })) y2 (fun x =>{ x with view:={ x.view with other:=(-1) } }),works:=ac8 (abP y0.works y1) y1 (fun x =>{ x with stack:=(([])++((aac y0.works y1).stack))++([y2]) }) }:SaV),()))
   else none
   else none
   else none
   else none
   else none
  else none
 else none
noncomputable abbrev adF:Con SR1:=⟨141,[.ref 64,.sh sI_,.sh sI_],[],fun x =>aar x.1 x.2.1 x.2.2.1⟩
theorem afl (y0:SaV) (y1:Int) (y2:Int):acD y0 y1 y2=aar y0 y1 y2:=by
 unfold acD aar
 simp only [ag2,if_true,acL,ad9]
 try rfl
theorem afk:CO Tryz.prog adF:=apD aeE fun x out hx =>(show ada.spec x=some out from (afl x.1 x.2.1 x.2.2.1).trans hx)
noncomputable def abJ (y0:SaV) (y1:Ev):Option ((Bool×Unit)×(SaV×Unit)) :=
 ((
  if y1.worker≠y0.c.workers then
   some (true,y0,())
  else
  if y1.other≠y0.offers then
   some (true,y0,())
  else
  some (decide (((y0.c.subs.length:Nat):Int)≤y1.other),y0,())
 ):Option (Bool×SaV×Unit)).bind fun z1 =>
 if z1.1=true then
  some ((false,()),(z1.2.1,()))
 else
 if y1.kind=2 then
  if y1.level=1 then
   if ((z1.2.1.queue.keys.length:Nat):Int)=z1.2.1.c.heap then
   some ((true,()),(({ z1.2.1 with offers:=wi (z1.2.1.offers+1) }:SaV),()))
   else
   if y1.level=2 then
   if ((z1.2.1.queue.keys.length:Nat):Int)<z1.2.1.c.heap then
   (aaE ({ z1.2.1 with offers:=wi (z1.2.1.offers+1) }:SaV)).bind fun r2 =>
   if z1.2.1.c.workers=r2.2.1.c.workers then
   if z1.2.1.c.tasks=r2.2.1.c.tasks then
   some ((decide ((wi (z1.2.1.c.tasks-z1.2.1.c.workers))≤r2.1.1),()),(r2.2.1,()))
   else none
   else none
   else
   some ((false,()),(({ z1.2.1 with offers:=wi (z1.2.1.offers+1) }:SaV),()))
   else
   some ((false,()),(({ z1.2.1 with offers:=wi (z1.2.1.offers+1) }:SaV),()))
  else
  if y1.level=2 then
   if ((z1.2.1.queue.keys.length:Nat):Int)<z1.2.1.c.heap then
   (aaE ({ z1.2.1 with offers:=wi (z1.2.1.offers+1) }:SaV)).bind fun r3 =>
   if z1.2.1.c.workers=r3.2.1.c.workers then
   if z1.2.1.c.tasks=r3.2.1.c.tasks then
   some ((decide ((wi (z1.2.1.c.tasks-z1.2.1.c.workers))≤r3.1.1),()),(r3.2.1,()))
   else none
   else none
   else
   some ((false,()),(({ z1.2.1 with offers:=wi (z1.2.1.offers+1) }:SaV),()))
  else
  some ((false,()),(({ z1.2.1 with offers:=wi (z1.2.1.offers+1) }:SaV),()))
 else
 if 0≤y1.other∧y1.other<((z1.2.1.c.subs.length:Nat):Int) then
  if ((acK z1.2.1.c.subs y1.other).prog)=((acK z1.2.1.c.subs y1.other).prog) then
   if ((acK z1.2.1.c.subs y1.other).level)=((acK z1.2.1.c.subs y1.other).level) then
   if ((acK z1.2.1.c.subs y1.other).deadline)=((acK z1.2.1.c.subs y1.other).deadline) then
   if y1.other=y1.other then
   if y1.level≠((acK z1.2.1.c.subs y1.other).level) then
   some ((false,()),(({ z1.2.1 with offers:=wi (z1.2.1.offers+1) }:SaV),()))
   else
   if 0≤y1.task∧y1.task<((z1.2.1.tasks.length:Nat):Int) then
   if ((aaa z1.2.1.tasks y1.task).view.phase)≠0 then
   some ((false,()),(({ z1.2.1 with tasks:=aa1 z1.2.1.tasks y1.task,offers:=wi (z1.2.1.offers+1) }:SaV),()))
   else
   (aaF z1.2.1.queue z1.2.1.c y1).bind fun r4 =>
   if (!r4.1.1)=true then
   some ((false,()),(({ z1.2.1 with tasks:=aa1 z1.2.1.tasks y1.task,queue:=r4.2.1,offers:=wi (z1.2.1.offers+1) }:SaV),()))
   else
   (aaR ({ z1.2.1 with tasks:=aa1 z1.2.1.tasks y1.task,queue:=r4.2.1,offers:=wi (z1.2.1.offers+1) }:SaV) y1.task y1.level ((acK z1.2.1.c.subs y1.other).prog) (-1)).bind fun r5 =>
   some ((true,()),(r5.2.1,()))
   else none
   else none
   else none
   else none
  else none
 else none
noncomputable abbrev ady:Con SR1:=⟨88,[.ref 64,.val 2],[.sh .b],fun x =>abJ x.1 x.2.1⟩
theorem aeY:CO Tryz.prog ady:=aaC aaB Tryz.func88 [acq,acu,acr] ⟨adb,adf,ade,trivial⟩ [] trivial (fun _ =>[]) [(2,.cut [.rg 33 .b,.ob 0 64] [6])] fun x =>by kernel_rfl
noncomputable def acp (y0:SaV) (y1:Ev):Option ((Bool×Unit)×(SaV×Unit)) :=
 if y1.kind=4 then
  (aaO y0 y1.worker y1.task).bind fun r1 =>
  if (!r1.1.1)=true then
   some ((false,()),(r1.2.1,()))
  else
  (aaA r1.2.1 y1.task).bind fun r2 =>
  if (!r2.1.2.1)=true then
   some ((false,()),(r2.2.1,()))
  else
  if r2.1.1.op≠1 then
   some ((false,()),(r2.2.1,()))
  else
  if y1.kind=3 then
   ((
   if r2.1.1.b≠y1.level then
   some (true,r2.2.1,())
   else
   if 0≤y1.task∧y1.task<((r2.2.1.tasks.length:Nat):Int) then
   some (decide (((aaa r2.2.1.tasks y1.task).view.phase)≠0),({ r2.2.1 with tasks:=aa1 r2.2.1.tasks y1.task }:SaV),())
   else none
   ):Option (Bool×SaV×Unit)).bind fun z3 =>
   if z3.1=true then
   some ((false,()),(z3.2.1,()))
   else
   (aaR z3.2.1 y1.task y1.level r2.1.1.a y1.task).bind fun r4 =>
   if 0≤y1.task∧y1.task<((r4.2.1.tasks.length:Nat):Int) then
   agr (
   ag2 (
   if (((([]:List Int).length+((aaa r4.2.1.tasks y1.task).kids).length:Nat)):Int)<1000000000000 then
   if ((((([])++((aaa r4.2.1.tasks y1.task).kids)).length+([y1.task]:List Int).length:Nat)):Int)<1000000000000 then
   if 0≤y1.task∧y1.task<(((aa1 r4.2.1.tasks y1.task).length:Nat):Int) then
   if 0≤y1.task∧y1.task<(((abv (aa1 r4.2.1.tasks y1.task) y1.task (fun x =>{ x with kids:=(([])++((aaa r4.2.1.tasks y1.task).kids))++([y1.task]) })).length:Nat):Int) then
   if 0≤y1.task∧y1.task<(((abv (aa1 r4.2.1.tasks y1.task) y1.task (fun x =>{ x with kids:=(([])++((aaa r4.2.1.tasks y1.task).kids))++([y1.task]) })).length:Nat):Int) then
   some ((true,()),(({ r4.2.1 with tasks:=abv (abv (aa1 r4.2.1.tasks y1.task) y1.task (fun x =>{ x with kids:=(([])++((aaa r4.2.1.tasks y1.task).kids))++([y1.task]) })) y1.task (fun x =>{ x with pc:=wi ((x.pc)+1) }) }:SaV),()))
   else none
   else none
   else none
   else none
   else none
   )
   ) (
   if (((([]:List Int).length+((aaa r4.2.1.tasks y1.task).kids).length:Nat)):Int)<1000000000000 then
   if ((((([])++((aaa r4.2.1.tasks y1.task).kids)).length+([y1.task]:List Int).length:Nat)):Int)<1000000000000 then
   if 0≤y1.task∧y1.task<(((aa1 r4.2.1.tasks y1.task).length:Nat):Int) then
   if 0≤y1.task∧y1.task<(((abv (aa1 r4.2.1.tasks y1.task) y1.task (fun x =>{ x with kids:=(([])++((aaa r4.2.1.tasks y1.task).kids))++([y1.task]) })).length:Nat):Int) then
   if 0≤y1.task∧y1.task<(((abv (aa1 r4.2.1.tasks y1.task) y1.task (fun x =>{ x with kids:=(([])++((aaa r4.2.1.tasks y1.task).kids))++([y1.task]) })).length:Nat):Int) then
   some ((true,()),(({ r4.2.1 with tasks:=abv (abv (aa1 r4.2.1.tasks y1.task) y1.task (fun x =>{ x with kids:=(([])++((aaa r4.2.1.tasks y1.task).kids))++([y1.task]) })) y1.task (fun x =>{ x with pc:=wi ((x.pc)+1) }) }:SaV),()))
   else none
   else none
   else none
   else none
   else none
   )
   else none
  else
  (aaE r2.2.1).bind fun r5 =>
  if r2.2.1.c.workers=r5.2.1.c.workers then
   if r2.2.1.c.tasks=r5.2.1.c.tasks then
   if r5.1.1<(wi (r2.2.1.c.tasks-r2.2.1.c.workers)) then
   some ((false,()),(r5.2.1,()))
   else
   if 0≤y1.task∧y1.task<((r5.2.1.tasks.length:Nat):Int) then
   agr (
   ag2 (
   if (((([]:List Int).length+((aaa r5.2.1.tasks y1.task).kids).length:Nat)):Int)<1000000000000 then
   if ((((([])++((aaa r5.2.1.tasks y1.task).kids)).length+([(-1)]:List Int).length:Nat)):Int)<1000000000000 then
   if 0≤y1.task∧y1.task<(((aa1 r5.2.1.tasks y1.task).length:Nat):Int) then
   if 0≤y1.task∧y1.task<(((abv (aa1 r5.2.1.tasks y1.task) y1.task (fun x =>{ x with kids:=(([])++((aaa r5.2.1.tasks y1.task).kids))++([(-1)]) })).length:Nat):Int) then
   if 0≤y1.task∧y1.task<(((abv (aa1 r5.2.1.tasks y1.task) y1.task (fun x =>{ x with kids:=(([])++((aaa r5.2.1.tasks y1.task).kids))++([(-1)]) })).length:Nat):Int) then
   some ((true,()),(({ r5.2.1 with tasks:=abv (abv (aa1 r5.2.1.tasks y1.task) y1.task (fun x =>{ x with kids:=(([])++((aaa r5.2.1.tasks y1.task).kids))++([(-1)]) })) y1.task (fun x =>{ x with pc:=wi ((x.pc)+1) }) }:SaV),()))
   else none
   else none
   else none
   else none
   else none
   )
   ) (
   if (((([]:List Int).length+((aaa r5.2.1.tasks y1.task).kids).length:Nat)):Int)<1000000000000 then
   if ((((([])++((aaa r5.2.1.tasks y1.task).kids)).length+([(-1)]:List Int).length:Nat)):Int)<1000000000000 then
   if 0≤y1.task∧y1.task<(((aa1 r5.2.1.tasks y1.task).length:Nat):Int) then
   if 0≤y1.task∧y1.task<(((abv (aa1 r5.2.1.tasks y1.task) y1.task (fun x =>{ x with kids:=(([])++((aaa r5.2.1.tasks y1.task).kids))++([(-1)]) })).length:Nat):Int) then
   if 0≤y1.task∧y1.task<(((abv (aa1 r5.2.1.tasks y1.task) y1.task (fun x =>{ x with kids:=(([])++((aaa r5.2.1.tasks y1.task).kids))++([(-1)]) })).length:Nat):Int) then
   some ((true,()),(({ r5.2.1 with tasks:=abv (abv (aa1 r5.2.1.tasks y1.task) y1.task (fun x =>{ x with kids:=(([])++((aaa r5.2.1.tasks y1.task).kids))++([(-1)]) })) y1.task (fun x =>{ x with pc:=wi ((x.pc)+1) }) }:SaV),()))
   else none
   else none
   else none
   else none
   else none
   )
   else none
   else none
  else none
 else
 (aaO y0 y1.worker y1.other).bind fun r6 =>
 if (!r6.1.1)=true then
  some ((false,()),(r6.2.1,()))
 else
 (aaA r6.2.1 y1.other).bind fun r7 =>
 if (!r7.1.2.1)=true then
  some ((false,()),(r7.2.1,()))
 else
 if r7.1.1.op≠1 then
  some ((false,()),(r7.2.1,()))
 else
 if y1.kind=3 then
  ((
   if r7.1.1.b≠y1.level then
   some (true,r7.2.1,())
   else
   if 0≤y1.task∧y1.task<((r7.2.1.tasks.length:Nat):Int) then
   some (decide (((aaa r7.2.1.tasks y1.task).view.phase)≠0),({ r7.2.1 with tasks:=aa1 r7.2.1.tasks y1.task }:SaV),())
   else none
  ):Option (Bool×SaV×Unit)).bind fun z8 =>
  if z8.1=true then
   some ((false,()),(z8.2.1,()))
  else
  (aaR z8.2.1 y1.task y1.level r7.1.1.a y1.other).bind fun r9 =>
  if 0≤y1.other∧y1.other<((r9.2.1.tasks.length:Nat):Int) then
   agr (
   ag2 (
   if (((([]:List Int).length+((aaa r9.2.1.tasks y1.other).kids).length:Nat)):Int)<1000000000000 then
   if ((((([])++((aaa r9.2.1.tasks y1.other).kids)).length+([y1.task]:List Int).length:Nat)):Int)<1000000000000 then
   if 0≤y1.other∧y1.other<(((aa1 r9.2.1.tasks y1.other).length:Nat):Int) then
   if 0≤y1.other∧y1.other<(((abv (aa1 r9.2.1.tasks y1.other) y1.other (fun x =>{ x with kids:=(([])++((aaa r9.2.1.tasks y1.other).kids))++([y1.task]) })).length:Nat):Int) then
   if 0≤y1.other∧y1.other<(((abv (aa1 r9.2.1.tasks y1.other) y1.other (fun x =>{ x with kids:=(([])++((aaa r9.2.1.tasks y1.other).kids))++([y1.task]) })).length:Nat):Int) then
   some ((true,()),(({ r9.2.1 with tasks:=abv (abv (aa1 r9.2.1.tasks y1.other) y1.other (fun x =>{ x with kids:=(([])++((aaa r9.2.1.tasks y1.other).kids))++([y1.task]) })) y1.other (fun x =>{ x with pc:=wi ((x.pc)+1) }) }:SaV),()))
   else none
   else none
   else none
   else none
   else none
   )
   ) (
   if (((([]:List Int).length+((aaa r9.2.1.tasks y1.other).kids).length:Nat)):Int)<1000000000000 then
   if ((((([])++((aaa r9.2.1.tasks y1.other).kids)).length+([y1.task]:List Int).length:Nat)):Int)<1000000000000 then
   if 0≤y1.other∧y1.other<(((aa1 r9.2.1.tasks y1.other).length:Nat):Int) then
   if 0≤y1.other∧y1.other<(((abv (aa1 r9.2.1.tasks y1.other) y1.other (fun x =>{ x with kids:=(([])++((aaa r9.2.1.tasks y1.other).kids))++([y1.task]) })).length:Nat):Int) then
   if 0≤y1.other∧y1.other<(((abv (aa1 r9.2.1.tasks y1.other) y1.other (fun x =>{ x with kids:=(([])++((aaa r9.2.1.tasks y1.other).kids))++([y1.task]) })).length:Nat):Int) then
   some ((true,()),(({ r9.2.1 with tasks:=abv (abv (aa1 r9.2.1.tasks y1.other) y1.other (fun x =>{ x with kids:=(([])++((aaa r9.2.1.tasks y1.other).kids))++([y1.task]) })) y1.other (fun x =>{ x with pc:=wi ((x.pc)+1) }) }:SaV),()))
   else none
   else none
   else none
   else none
   else none
   )
  else none
 else
 (aaE r7.2.1).bind fun r10 =>
 if r7.2.1.c.workers=r10.2.1.c.workers then
  if r7.2.1.c.tasks=r10.2.1.c.tasks then
   if r10.1.1<(wi (r7.2.1.c.tasks-r7.2.1.c.workers)) then
   some ((false,()),(r10.2.1,()))
   else
   if 0≤y1.other∧y1.other<((r10.2.1.tasks.length:Nat):Int) then
   agr (
   ag2 (
   if (((([]:List Int).length+((aaa r10.2.1.tasks y1.other).kids).length:Nat)):Int)<1000000000000 then
   if ((((([])++((aaa r10.2.1.tasks y1.other).kids)).length+([(-1)]:List Int).length:Nat)):Int)<1000000000000 then
   if 0≤y1.other∧y1.other<(((aa1 r10.2.1.tasks y1.other).length:Nat):Int) then
   if 0≤y1.other∧y1.other<(((abv (aa1 r10.2.1.tasks y1.other) y1.other (fun x =>{ x with kids:=(([])++((aaa r10.2.1.tasks y1.other).kids))++([(-1)]) })).length:Nat):Int) then
   if 0≤y1.other∧y1.other<(((abv (aa1 r10.2.1.tasks y1.other) y1.other (fun x =>{ x with kids:=(([])++((aaa r10.2.1.tasks y1.other).kids))++([(-1)]) })).length:Nat):Int) then
   some ((true,()),(({ r10.2.1 with tasks:=abv (abv (aa1 r10.2.1.tasks y1.other) y1.other (fun x =>{ x with kids:=(([])++((aaa r10.2.1.tasks y1.other).kids))++([(-1)]) })) y1.other (fun x =>{ x with pc:=wi ((x.pc)+1) }) }:SaV),()))
   else none
   else none
   else none
   else none
   else none
   )
   ) (
   if (((([]:List Int).length+((aaa r10.2.1.tasks y1.other).kids).length:Nat)):Int)<1000000000000 then
   if ((((([])++((aaa r10.2.1.tasks y1.other).kids)).length+([(-1)]:List Int).length:Nat)):Int)<1000000000000 then
   if 0≤y1.other∧y1.other<(((aa1 r10.2.1.tasks y1.other).length:Nat):Int) then
   if 0≤y1.other∧y1.other<(((abv (aa1 r10.2.1.tasks y1.other) y1.other (fun x =>{ x with kids:=(([])++((aaa r10.2.1.tasks y1.other).kids))++([(-1)]) })).length:Nat):Int) then
   if 0≤y1.other∧y1.other<(((abv (aa1 r10.2.1.tasks y1.other) y1.other (fun x =>{ x with kids:=(([])++((aaa r10.2.1.tasks y1.other).kids))++([(-1)]) })).length:Nat):Int) then
   some ((true,()),(({ r10.2.1 with tasks:=abv (abv (aa1 r10.2.1.tasks y1.other) y1.other (fun x =>{ x with kids:=(([])++((aaa r10.2.1.tasks y1.other).kids))++([(-1)]) })) y1.other (fun x =>{ x with pc:=wi ((x.pc)+1) }) }:SaV),()))
   else none
   else none
   else none
   else none
   else none
   )
   else none
  else none
 else none
noncomputable abbrev ac4:Con SR1:=⟨89,[.ref 64,.val 2],[.sh .b],fun x =>acp x.1 x.2.1⟩
theorem aer:CO Tryz.prog ac4:=aaC aaB Tryz.func89 [abZ,abM,acr,acq] ⟨aco,ab6,ade,adb,trivial⟩ [] trivial (fun _ =>[]) [(12,.cut [.rg 55 .b,.ob 0 64] [6,12])] fun x =>by kernel_rfl
noncomputable def abj (y0:SaV) (y1:Ev):Option ((Bool×Unit)×(SaV×Unit)) :=
 if y1.kind=4 then
  (aaO y0 y1.worker y1.task).bind fun r1 =>
  if (!r1.1.1)=true then
   some ((false,()),(r1.2.1,()))
  else
  (aaA r1.2.1 y1.task).bind fun r2 =>
  if (!r2.1.2.1)=true then
   some ((false,()),(r2.2.1,()))
  else
  if r2.1.1.op≠1 then
   some ((false,()),(r2.2.1,()))
  else
  if y1.kind=3 then
   ((
   if r2.1.1.b≠y1.level then
   some (true,r2.2.1,())
   else
   if 0≤y1.task∧y1.task<((r2.2.1.tasks.length:Nat):Int) then
   some (decide (((aaa r2.2.1.tasks y1.task).view.phase)≠0),({ r2.2.1 with tasks:=aa1 r2.2.1.tasks y1.task }:SaV),())
   else none
   ):Option (Bool×SaV×Unit)).bind fun z3 =>
   if z3.1=true then
   some ((false,()),(z3.2.1,()))
   else
   (aaR z3.2.1 y1.task y1.level r2.1.1.a y1.task).bind fun r4 =>
   if 0≤y1.task∧y1.task<((r4.2.1.tasks.length:Nat):Int) then
   if (((([]:List Int).length+((aaa r4.2.1.tasks y1.task).kids).length:Nat)):Int)<1000000000000 then
   if ((((([])++((aaa r4.2.1.tasks y1.task).kids)).length+([y1.task]:List Int).length:Nat)):Int)<1000000000000 then
   if 0≤y1.task∧y1.task<(((aa1 r4.2.1.tasks y1.task).length:Nat):Int) then
   if 0≤y1.task∧y1.task<(((abv (aa1 r4.2.1.tasks y1.task) y1.task (fun x =>{ x with kids:=(([])++((aaa r4.2.1.tasks y1.task).kids))++([y1.task]) })).length:Nat):Int) then
   if 0≤y1.task∧y1.task<(((abv (aa1 r4.2.1.tasks y1.task) y1.task (fun x =>{ x with kids:=(([])++((aaa r4.2.1.tasks y1.task).kids))++([y1.task]) })).length:Nat):Int) then
   some ((true,()),(({ r4.2.1 with tasks:=abv (abv (aa1 r4.2.1.tasks y1.task) y1.task (fun x =>{ x with kids:=(([])++((aaa r4.2.1.tasks y1.task).kids))++([y1.task]) })) y1.task (fun x =>{ x with pc:=wi ((x.pc)+1) }) }:SaV),()))
   else none
   else none
   else none
   else none
   else none
   else none
  else
  (aaE r2.2.1).bind fun r5 =>
  if r2.2.1.c.workers=r5.2.1.c.workers then
   if r2.2.1.c.tasks=r5.2.1.c.tasks then
   if r5.1.1<(wi (r2.2.1.c.tasks-r2.2.1.c.workers)) then
   some ((false,()),(r5.2.1,()))
   else
   if 0≤y1.task∧y1.task<((r5.2.1.tasks.length:Nat):Int) then
   if (((([]:List Int).length+((aaa r5.2.1.tasks y1.task).kids).length:Nat)):Int)<1000000000000 then
   if ((((([])++((aaa r5.2.1.tasks y1.task).kids)).length+([(-1)]:List Int).length:Nat)):Int)<1000000000000 then
   if 0≤y1.task∧y1.task<(((aa1 r5.2.1.tasks y1.task).length:Nat):Int) then
   if 0≤y1.task∧y1.task<(((abv (aa1 r5.2.1.tasks y1.task) y1.task (fun x =>{ x with kids:=(([])++((aaa r5.2.1.tasks y1.task).kids))++([(-1)]) })).length:Nat):Int) then
   if 0≤y1.task∧y1.task<(((abv (aa1 r5.2.1.tasks y1.task) y1.task (fun x =>{ x with kids:=(([])++((aaa r5.2.1.tasks y1.task).kids))++([(-1)]) })).length:Nat):Int) then
   some ((true,()),(({ r5.2.1 with tasks:=abv (abv (aa1 r5.2.1.tasks y1.task) y1.task (fun x =>{ x with kids:=(([])++((aaa r5.2.1.tasks y1.task).kids))++([(-1)]) })) y1.task (fun x =>{ x with pc:=wi ((x.pc)+1) }) }:SaV),()))
   else none
   else none
   else none
   else none
   else none
   else none
   else none
  else none
 else
 (aaO y0 y1.worker y1.other).bind fun r6 =>
 if (!r6.1.1)=true then
  some ((false,()),(r6.2.1,()))
 else
 (aaA r6.2.1 y1.other).bind fun r7 =>
 if (!r7.1.2.1)=true then
  some ((false,()),(r7.2.1,()))
 else
 if r7.1.1.op≠1 then
  some ((false,()),(r7.2.1,()))
 else
 if y1.kind=3 then
  ((
   if r7.1.1.b≠y1.level then
   some (true,r7.2.1,())
   else
   if 0≤y1.task∧y1.task<((r7.2.1.tasks.length:Nat):Int) then
   some (decide (((aaa r7.2.1.tasks y1.task).view.phase)≠0),({ r7.2.1 with tasks:=aa1 r7.2.1.tasks y1.task }:SaV),())
   else none
  ):Option (Bool×SaV×Unit)).bind fun z8 =>
  if z8.1=true then
   some ((false,()),(z8.2.1,()))
  else
  (aaR z8.2.1 y1.task y1.level r7.1.1.a y1.other).bind fun r9 =>
  if 0≤y1.other∧y1.other<((r9.2.1.tasks.length:Nat):Int) then
   if (((([]:List Int).length+((aaa r9.2.1.tasks y1.other).kids).length:Nat)):Int)<1000000000000 then
   if ((((([])++((aaa r9.2.1.tasks y1.other).kids)).length+([y1.task]:List Int).length:Nat)):Int)<1000000000000 then
   if 0≤y1.other∧y1.other<(((aa1 r9.2.1.tasks y1.other).length:Nat):Int) then
   if 0≤y1.other∧y1.other<(((abv (aa1 r9.2.1.tasks y1.other) y1.other (fun x =>{ x with kids:=(([])++((aaa r9.2.1.tasks y1.other).kids))++([y1.task]) })).length:Nat):Int) then
   if 0≤y1.other∧y1.other<(((abv (aa1 r9.2.1.tasks y1.other) y1.other (fun x =>{ x with kids:=(([])++((aaa r9.2.1.tasks y1.other).kids))++([y1.task]) })).length:Nat):Int) then
   some ((true,()),(({ r9.2.1 with tasks:=abv (abv (aa1 r9.2.1.tasks y1.other) y1.other (fun x =>{ x with kids:=(([])++((aaa r9.2.1.tasks y1.other).kids))++([y1.task]) })) y1.other (fun x =>{ x with pc:=wi ((x.pc)+1) }) }:SaV),()))
   else none
   else none
   else none
   else none
   else none
  else none
 else
 (aaE r7.2.1).bind fun r10 =>
 if r7.2.1.c.workers=r10.2.1.c.workers then
  if r7.2.1.c.tasks=r10.2.1.c.tasks then
   if r10.1.1<(wi (r7.2.1.c.tasks-r7.2.1.c.workers)) then
   some ((false,()),(r10.2.1,()))
   else
   if 0≤y1.other∧y1.other<((r10.2.1.tasks.length:Nat):Int) then
   if (((([]:List Int).length+((aaa r10.2.1.tasks y1.other).kids).length:Nat)):Int)<1000000000000 then
   if ((((([])++((aaa r10.2.1.tasks y1.other).kids)).length+([(-1)]:List Int).length:Nat)):Int)<1000000000000 then
   if 0≤y1.other∧y1.other<(((aa1 r10.2.1.tasks y1.other).length:Nat):Int) then
   if 0≤y1.other∧y1.other<(((abv (aa1 r10.2.1.tasks y1.other) y1.other (fun x =>{ x with kids:=(([])++((aaa r10.2.1.tasks y1.other).kids))++([(-1)]) })).length:Nat):Int) then
   if 0≤y1.other∧y1.other<(((abv (aa1 r10.2.1.tasks y1.other) y1.other (fun x =>{ x with kids:=(([])++((aaa r10.2.1.tasks y1.other).kids))++([(-1)]) })).length:Nat):Int) then
   some ((true,()),(({ r10.2.1 with tasks:=abv (abv (aa1 r10.2.1.tasks y1.other) y1.other (fun x =>{ x with kids:=(([])++((aaa r10.2.1.tasks y1.other).kids))++([(-1)]) })) y1.other (fun x =>{ x with pc:=wi ((x.pc)+1) }) }:SaV),()))
   else none
   else none
   else none
   else none
   else none
   else none
  else none
 else none
noncomputable abbrev adw:Con SR1:=⟨89,[.ref 64,.val 2],[.sh .b],fun x =>abj x.1 x.2.1⟩
theorem aeV (y0:SaV) (y1:Ev):acp y0 y1=abj y0 y1:=by
 unfold acp abj
 simp only [ag2,if_true,acL,ad9]
 try rfl
theorem aeU:CO Tryz.prog adw:=apD aer fun x out hx =>(show ac4.spec x=some out from (aeV x.1 x.2.1).trans hx)
noncomputable def ace (y0:SaV) (y1:Ev):Option ((Bool×Unit)×(SaV×Unit)) :=
 (aaO y0 y1.worker y1.task).bind fun r1 =>
 if (!r1.1.1)=true then
  some ((false,()),(r1.2.1,()))
 else
 (aaA r1.2.1 y1.task).bind fun r2 =>
 if 0≤y1.task∧y1.task<((r2.2.1.tasks.length:Nat):Int) then
  if (!r2.1.2.1)=true then
   some ((false,()),(r2.2.1,()))
  else
  if r2.1.1.op≠2 then
   some ((false,()),(r2.2.1,()))
  else
  if 0≤r2.1.1.a∧r2.1.1.a<((((aaa r2.2.1.tasks y1.task).kids).length:Nat):Int) then
   if (aaf ((aaa r2.2.1.tasks y1.task).kids) r2.1.1.a)≠y1.other then
   some ((false,()),(({ r2.2.1 with tasks:=aa1 r2.2.1.tasks y1.task }:SaV),()))
   else
   if 0≤y1.other∧y1.other<(((aa1 r2.2.1.tasks y1.task).length:Nat):Int) then
   if (decide (((aaa (aa1 r2.2.1.tasks y1.task) y1.other).view.phase)=4))≠(decide (y1.kind=8)) then
   some ((false,()),(({ r2.2.1 with tasks:=aa1 (aa1 r2.2.1.tasks y1.task) y1.other }:SaV),()))
   else
   if y1.kind=6 then
   if 0≤y1.worker∧y1.worker<((r2.2.1.works.length:Nat):Int) then
   if 0≤wi (((((aac r2.2.1.works y1.worker).stack).length:Nat):Int)-1)∧wi (((((aac r2.2.1.works y1.worker).stack).length:Nat):Int)-1)<((((aac r2.2.1.works y1.worker).stack).length:Nat):Int) then
   if 0≤aaf ((aac r2.2.1.works y1.worker).stack) (wi (((((aac r2.2.1.works y1.worker).stack).length:Nat):Int)-1))∧aaf ((aac r2.2.1.works y1.worker).stack) (wi (((((aac r2.2.1.works y1.worker).stack).length:Nat):Int)-1))<(((abv (aa1 (aa1 r2.2.1.tasks y1.task) y1.other) y1.task (fun x =>{ x with pc:=wi ((x.pc)+1) })).length:Nat):Int) then
   if 0≤wi (((((aac r2.2.1.works y1.worker).stack).length:Nat):Int)-1)∧wi (((((aac r2.2.1.works y1.worker).stack).length:Nat):Int)-1)≤((((aac r2.2.1.works y1.worker).stack).length:Nat):Int) then
   if (((([]:List Int).length+(((aac r2.2.1.works y1.worker).stack).take (wi (((((aac r2.2.1.works y1.worker).stack).length:Nat):Int)-1):Int).toNat).length:Nat)):Int)<1000000000000 then
   if 0≤y1.worker∧y1.worker<(((abP r2.2.1.works y1.worker).length:Nat):Int) then
   if y1.other=y1.other then
   if 0≤y1.worker∧y1.worker<(((ac8 (abP r2.2.1.works y1.worker) y1.worker (fun x =>{ x with stack:=([])++(((aac r2.2.1.works y1.worker).stack).take (wi (((((aac r2.2.1.works y1.worker).stack).length:Nat):Int)-1):Int).toNat) })).length:Nat):Int) then
   some ((true,()),(({ r2.2.1 with tasks:=aa1 (abv (abv (abv (abv (aa1 (aa1 r2.2.1.tasks y1.task) y1.other) y1.task (fun x =>{ x with pc:=wi ((x.pc)+1) })) (aaf ((aac r2.2.1.works y1.worker).stack) (wi (((((aac r2.2.1.works y1.worker).stack).length:Nat):Int)-1))) (fun x =>{ x with view:={ x.view with worker:=(-1) } })) y1.task (fun x =>{ x with view:={ x.view with phase:=3 } })) y1.task (fun x =>{ x with view:={ x.view with other:=y1.other } })) y1.task,works:=ac8 (ac8 (ac8 (ac8 (abP r2.2.1.works y1.worker) y1.worker (fun x =>{ x with stack:=([])++(((aac r2.2.1.works y1.worker).stack).take (wi (((((aac r2.2.1.works y1.worker).stack).length:Nat):Int)-1):Int).toNat) })) y1.worker (fun x =>{ x with walk:=y1.task })) y1.worker (fun x =>{ x with low:=(aaa (abv (abv (abv (abv (aa1 (aa1 r2.2.1.tasks y1.task) y1.other) y1.task (fun x =>{ x with pc:=wi ((x.pc)+1) })) (aaf ((aac r2.2.1.works y1.worker).stack) (wi (((((aac r2.2.1.works y1.worker).stack).length:Nat):Int)-1))) (fun x =>{ x with view:={ x.view with worker:=(-1) } })) y1.task (fun x =>{ x with view:={ x.view with phase:=3 } })) y1.task (fun x =>{ x with view:={ x.view with other:=y1.other } })) y1.task).view.level })) y1.worker (fun x =>{ x with up:=(-1) }) }:SaV),()))
   else none
   else none
   else none
   else none
   else none
   else none
   else none
   else none
   else
   some ((true,()),(({ r2.2.1 with tasks:=abv (aa1 (aa1 r2.2.1.tasks y1.task) y1.other) y1.task (fun x =>{ x with pc:=wi ((x.pc)+1) }) }:SaV),()))
   else none
  else none
 else none
noncomputable abbrev adG:Con SR1:=⟨90,[.ref 64,.val 2],[.sh .b],fun x =>ace x.1 x.2.1⟩
noncomputable def afm:List (Nat×Func):=[(140,Tryz.f140)]
theorem afn:CO Tryz.prog adG:=aaC aaB Tryz.func90 [abZ,abM] ⟨aco,ab6,trivial⟩ afm ⟨Tryz.func140,trivial⟩ (fun _ =>[]) [] fun x =>by kernel_rfl
noncomputable def acs (y0:SaV) (y1:Ev):Option ((Bool×Unit)×(SaV×Unit)) :=
 if 0≤y1.task∧y1.task<((y0.tasks.length:Nat):Int) then
  if 0≤y1.worker∧y1.worker<((y0.works.length:Nat):Int) then
   agr (
   if ((aac y0.works y1.worker).last.kind)=((aac y0.works y1.worker).last.kind) then
   if ((aac y0.works y1.worker).last.worker)=((aac y0.works y1.worker).last.worker) then
   if ((aac y0.works y1.worker).last.task)=((aac y0.works y1.worker).last.task) then
   if ((aac y0.works y1.worker).last.other)=((aac y0.works y1.worker).last.other) then
   if ((aac y0.works y1.worker).last.level)=((aac y0.works y1.worker).last.level) then
   if y1.worker=y1.worker then
   if ((aaa y0.tasks y1.task).view.phase)=((aaa y0.tasks y1.task).view.phase) then
   if ((aaa y0.tasks y1.task).view.level)=((aaa y0.tasks y1.task).view.level) then
   if ((aaa y0.tasks y1.task).view.parent)=((aaa y0.tasks y1.task).view.parent) then
   if ((aaa y0.tasks y1.task).view.worker)=((aaa y0.tasks y1.task).view.worker) then
   if ((aaa y0.tasks y1.task).view.other)=((aaa y0.tasks y1.task).view.other) then
   if y1.task=y1.task then
   if ((aac y0.works y1.worker).last.kind)=((aac y0.works y1.worker).last.kind) then
   if ((aac y0.works y1.worker).last.worker)=((aac y0.works y1.worker).last.worker) then
   if ((aac y0.works y1.worker).last.task)=((aac y0.works y1.worker).last.task) then
   if ((aac y0.works y1.worker).last.other)=((aac y0.works y1.worker).last.other) then
   if ((aac y0.works y1.worker).last.level)=((aac y0.works y1.worker).last.level) then
   if y1.worker=y1.worker then
   if ((aaa y0.tasks y1.task).view.phase)=((aaa y0.tasks y1.task).view.phase) then
   if ((aaa y0.tasks y1.task).view.level)=((aaa y0.tasks y1.task).view.level) then
   if ((aaa y0.tasks y1.task).view.parent)=((aaa y0.tasks y1.task).view.parent) then
   if ((aaa y0.tasks y1.task).view.worker)=((aaa y0.tasks y1.task).view.worker) then
   if ((aaa y0.tasks y1.task).view.other)=((aaa y0.tasks y1.task).view.other) then
   if y1.task=y1.task then
   if ((aac y0.works y1.worker).last.kind)=((aac y0.works y1.worker).last.kind) then
   if ((aac y0.works y1.worker).last.worker)=((aac y0.works y1.worker).last.worker) then
   if ((aac y0.works y1.worker).last.task)=((aac y0.works y1.worker).last.task) then
   if ((aac y0.works y1.worker).last.other)=((aac y0.works y1.worker).last.other) then
   if ((aac y0.works y1.worker).last.level)=((aac y0.works y1.worker).last.level) then
   if y1.worker=y1.worker then
   (abq ({ y0 with tasks:=aa1 y0.tasks y1.task,works:=abP y0.works y1.worker }:SaV) y1.worker).bind fun r6 =>
   if y1.kind=5 then
   if ((aaa y0.tasks y1.task).view.phase)=1 then
   if r6.1.1=true then
   (aar r6.2.1 y1.worker y1.task).bind fun r7 =>
   some ((true,()),(r7.2.1,()))
   else
   if ((aac y0.works y1.worker).last.kind)=3 then
   if ((aac y0.works y1.worker).last.task)=y1.task then
   (aar r6.2.1 y1.worker y1.task).bind fun r8 =>
   some ((decide (((aac y0.works y1.worker).last.task)=y1.task),()),(r8.2.1,()))
   else
   some ((decide (((aac y0.works y1.worker).last.task)=y1.task),()),(r6.2.1,()))
   else
   some ((false,()),(r6.2.1,()))
   else
   some ((false,()),(r6.2.1,()))
   else
   if ((aaa y0.tasks y1.task).view.phase)=3 then
   if 0≤(aaa y0.tasks y1.task).view.other∧(aaa y0.tasks y1.task).view.other<((r6.2.1.tasks.length:Nat):Int) then
   if ((aaa r6.2.1.tasks ((aaa y0.tasks y1.task).view.other)).view.phase)=4 then
   if r6.1.1=true then
   (aar ({ r6.2.1 with tasks:=aa1 r6.2.1.tasks ((aaa y0.tasks y1.task).view.other) }:SaV) y1.worker y1.task).bind fun r9 =>
   some ((true,()),(r9.2.1,()))
   else
   if ((aac y0.works y1.worker).last.kind)=10 then
   if ((aac y0.works y1.worker).last.task)=((aaa y0.tasks y1.task).view.other) then
   (aar ({ r6.2.1 with tasks:=aa1 r6.2.1.tasks ((aaa y0.tasks y1.task).view.other) }:SaV) y1.worker y1.task).bind fun r10 =>
   some ((decide (((aac y0.works y1.worker).last.task)=((aaa y0.tasks y1.task).view.other)),()),(r10.2.1,()))
   else
   some ((decide (((aac y0.works y1.worker).last.task)=((aaa y0.tasks y1.task).view.other)),()),(({ r6.2.1 with tasks:=aa1 r6.2.1.tasks ((aaa y0.tasks y1.task).view.other) }:SaV),()))
   else
   some ((false,()),(({ r6.2.1 with tasks:=aa1 r6.2.1.tasks ((aaa y0.tasks y1.task).view.other) }:SaV),()))
   else
   some ((false,()),(({ r6.2.1 with tasks:=aa1 r6.2.1.tasks ((aaa y0.tasks y1.task).view.other) }:SaV),()))
   else none
   else
   some ((false,()),(r6.2.1,()))
   else none
   else none
   else none
   else none
   else none
   else none
   else none
   else none
   else none
   else none
   else none
   else none
   else none
   else none
   else none
   else none
   else none
   else none
   else none
   else none
   else none
   else none
   else none
   else none
   else none
   else none
   else none
   else none
   else none
   else none
   ) (
   if ((aac y0.works y1.worker).last.kind)=((aac y0.works y1.worker).last.kind) then
   if ((aac y0.works y1.worker).last.worker)=((aac y0.works y1.worker).last.worker) then
   if ((aac y0.works y1.worker).last.task)=((aac y0.works y1.worker).last.task) then
   if ((aac y0.works y1.worker).last.other)=((aac y0.works y1.worker).last.other) then
   if ((aac y0.works y1.worker).last.level)=((aac y0.works y1.worker).last.level) then
   if y1.worker=y1.worker then
   if ((aaa y0.tasks y1.task).view.phase)=((aaa y0.tasks y1.task).view.phase) then
   if ((aaa y0.tasks y1.task).view.level)=((aaa y0.tasks y1.task).view.level) then
   if ((aaa y0.tasks y1.task).view.parent)=((aaa y0.tasks y1.task).view.parent) then
   if ((aaa y0.tasks y1.task).view.worker)=((aaa y0.tasks y1.task).view.worker) then
   if ((aaa y0.tasks y1.task).view.other)=((aaa y0.tasks y1.task).view.other) then
   if y1.task=y1.task then
   if ((aac y0.works y1.worker).last.kind)=((aac y0.works y1.worker).last.kind) then
   if ((aac y0.works y1.worker).last.worker)=((aac y0.works y1.worker).last.worker) then
   if ((aac y0.works y1.worker).last.task)=((aac y0.works y1.worker).last.task) then
   if ((aac y0.works y1.worker).last.other)=((aac y0.works y1.worker).last.other) then
   if ((aac y0.works y1.worker).last.level)=((aac y0.works y1.worker).last.level) then
   if y1.worker=y1.worker then
   if ((aaa y0.tasks y1.task).view.phase)=((aaa y0.tasks y1.task).view.phase) then
   if ((aaa y0.tasks y1.task).view.level)=((aaa y0.tasks y1.task).view.level) then
   if ((aaa y0.tasks y1.task).view.parent)=((aaa y0.tasks y1.task).view.parent) then
   if ((aaa y0.tasks y1.task).view.worker)=((aaa y0.tasks y1.task).view.worker) then
   if ((aaa y0.tasks y1.task).view.other)=((aaa y0.tasks y1.task).view.other) then
   if y1.task=y1.task then
   if ((aac y0.works y1.worker).last.kind)=((aac y0.works y1.worker).last.kind) then
   if ((aac y0.works y1.worker).last.worker)=((aac y0.works y1.worker).last.worker) then
   if ((aac y0.works y1.worker).last.task)=((aac y0.works y1.worker).last.task) then
   if ((aac y0.works y1.worker).last.other)=((aac y0.works y1.worker).last.other) then
   if ((aac y0.works y1.worker).last.level)=((aac y0.works y1.worker).last.level) then
   if y1.worker=y1.worker then
   (abq ({ y0 with tasks:=aa1 y0.tasks y1.task,works:=abP y0.works y1.worker }:SaV) y1.worker).bind fun r1 =>
   if y1.kind=5 then
   if ((aaa y0.tasks y1.task).view.phase)=1 then
   if r1.1.1=true then
   (aar r1.2.1 y1.worker y1.task).bind fun r2 =>
   some ((true,()),(r2.2.1,()))
   else
   if ((aac y0.works y1.worker).last.kind)=3 then
   if ((aac y0.works y1.worker).last.task)=y1.task then
   (aar r1.2.1 y1.worker y1.task).bind fun r3 =>
   some ((decide (((aac y0.works y1.worker).last.task)=y1.task),()),(r3.2.1,()))
   else
   some ((decide (((aac y0.works y1.worker).last.task)=y1.task),()),(r1.2.1,()))
   else
   some ((false,()),(r1.2.1,()))
   else
   some ((false,()),(r1.2.1,()))
   else
   if ((aaa y0.tasks y1.task).view.phase)=3 then
   if 0≤(aaa y0.tasks y1.task).view.other∧(aaa y0.tasks y1.task).view.other<((r1.2.1.tasks.length:Nat):Int) then
   if ((aaa r1.2.1.tasks ((aaa y0.tasks y1.task).view.other)).view.phase)=4 then
   if r1.1.1=true then
   (aar ({ r1.2.1 with tasks:=aa1 r1.2.1.tasks ((aaa y0.tasks y1.task).view.other) }:SaV) y1.worker y1.task).bind fun r4 =>
   some ((true,()),(r4.2.1,()))
   else
   if ((aac y0.works y1.worker).last.kind)=10 then
   if ((aac y0.works y1.worker).last.task)=((aaa y0.tasks y1.task).view.other) then
   (aar ({ r1.2.1 with tasks:=aa1 r1.2.1.tasks ((aaa y0.tasks y1.task).view.other) }:SaV) y1.worker y1.task).bind fun r5 =>
   some ((decide (((aac y0.works y1.worker).last.task)=((aaa y0.tasks y1.task).view.other)),()),(r5.2.1,()))
   else
   some ((decide (((aac y0.works y1.worker).last.task)=((aaa y0.tasks y1.task).view.other)),()),(({ r1.2.1 with tasks:=aa1 r1.2.1.tasks ((aaa y0.tasks y1.task).view.other) }:SaV),()))
   else
   some ((false,()),(({ r1.2.1 with tasks:=aa1 r1.2.1.tasks ((aaa y0.tasks y1.task).view.other) }:SaV),()))
   else
   some ((false,()),(({ r1.2.1 with tasks:=aa1 r1.2.1.tasks ((aaa y0.tasks y1.task).view.other) }:SaV),()))
   else none
   else
   some ((false,()),(r1.2.1,()))
   else none
   else none
   else none
   else none
   else none
   else none
   else none
   else none
   else none
   else none
   else none
   else none
   else none
   else none
   else none
   else none
   else none
   else none
   else none
   else none
   else none
   else none
   else none
   else none
   else none
   else none
   else none
   else none
   else none
   else none
   )
  else none
 else none
noncomputable abbrev ac5:Con SR1:=⟨91,[.ref 64,.val 2],[.sh .b],fun x =>acs x.1 x.2.1⟩
theorem aes:CO Tryz.prog ac5:=aaC aaB Tryz.func91 [adH,adF] ⟨afo,afk,trivial⟩ [] trivial (fun _ =>[]) [] fun x =>by kernel_rfl
noncomputable def abk (y0:SaV) (y1:Ev):Option ((Bool×Unit)×(SaV×Unit)) :=
 if 0≤y1.task∧y1.task<((y0.tasks.length:Nat):Int) then
  if 0≤y1.worker∧y1.worker<((y0.works.length:Nat):Int) then
   (abq ({ y0 with tasks:=aa1 y0.tasks y1.task,works:=abP y0.works y1.worker }:SaV) y1.worker).bind fun r1 =>
   if y1.kind=5 then
   if ((aaa y0.tasks y1.task).view.phase)=1 then
   if r1.1.1=true then
   (aar r1.2.1 y1.worker y1.task).bind fun r2 =>
   some ((true,()),(r2.2.1,()))
   else
   if ((aac y0.works y1.worker).last.kind)=3 then
   if ((aac y0.works y1.worker).last.task)=y1.task then
   (aar r1.2.1 y1.worker y1.task).bind fun r3 =>
   some ((decide (((aac y0.works y1.worker).last.task)=y1.task),()),(r3.2.1,()))
   else
   some ((decide (((aac y0.works y1.worker).last.task)=y1.task),()),(r1.2.1,()))
   else
   some ((false,()),(r1.2.1,()))
   else
   some ((false,()),(r1.2.1,()))
   else
   if ((aaa y0.tasks y1.task).view.phase)=3 then
   if 0≤(aaa y0.tasks y1.task).view.other∧(aaa y0.tasks y1.task).view.other<((r1.2.1.tasks.length:Nat):Int) then
   if ((aaa r1.2.1.tasks ((aaa y0.tasks y1.task).view.other)).view.phase)=4 then
   if r1.1.1=true then
   (aar ({ r1.2.1 with tasks:=aa1 r1.2.1.tasks ((aaa y0.tasks y1.task).view.other) }:SaV) y1.worker y1.task).bind fun r4 =>
   some ((true,()),(r4.2.1,()))
   else
   if ((aac y0.works y1.worker).last.kind)=10 then
   if ((aac y0.works y1.worker).last.task)=((aaa y0.tasks y1.task).view.other) then
   (aar ({ r1.2.1 with tasks:=aa1 r1.2.1.tasks ((aaa y0.tasks y1.task).view.other) }:SaV) y1.worker y1.task).bind fun r5 =>
   some ((decide (((aac y0.works y1.worker).last.task)=((aaa y0.tasks y1.task).view.other)),()),(r5.2.1,()))
   else
   some ((decide (((aac y0.works y1.worker).last.task)=((aaa y0.tasks y1.task).view.other)),()),(({ r1.2.1 with tasks:=aa1 r1.2.1.tasks ((aaa y0.tasks y1.task).view.other) }:SaV),()))
   else
   some ((false,()),(({ r1.2.1 with tasks:=aa1 r1.2.1.tasks ((aaa y0.tasks y1.task).view.other) }:SaV),()))
   else
   some ((false,()),(({ r1.2.1 with tasks:=aa1 r1.2.1.tasks ((aaa y0.tasks y1.task).view.other) }:SaV),()))
   else none
   else
   some ((false,()),(r1.2.1,()))
  else none
 else none
noncomputable abbrev adz:Con SR1:=⟨91,[.ref 64,.val 2],[.sh .b],fun x =>abk x.1 x.2.1⟩
theorem ae0 (y0:SaV) (y1:Ev):acs y0 y1=abk y0 y1:=by
 unfold acs abk
 simp only [ag2,if_true,acL,ad9]
 try rfl
theorem aeZ:CO Tryz.prog adz:=apD aes fun x out hx =>(show ac5.spec x=some out from (ae0 x.1 x.2.1).trans hx)
noncomputable def acE (y0:SaV) (y1:Ev):Option ((Bool×Unit)×(SaV×Unit)) :=
 (aaO y0 y1.worker y1.task).bind fun r1 =>
 if (!r1.1.1)=true then
  some ((false,()),(r1.2.1,()))
 else
 (aaA r1.2.1 y1.task).bind fun r2 =>
 if r2.1.2.1=true then
  some ((false,()),(r2.2.1,()))
 else
 if 0≤y1.worker∧y1.worker<((r2.2.1.works.length:Nat):Int) then
  if 0≤wi (((((aac r2.2.1.works y1.worker).stack).length:Nat):Int)-1)∧wi (((((aac r2.2.1.works y1.worker).stack).length:Nat):Int)-1)<((((aac r2.2.1.works y1.worker).stack).length:Nat):Int) then
   if 0≤aaf ((aac r2.2.1.works y1.worker).stack) (wi (((((aac r2.2.1.works y1.worker).stack).length:Nat):Int)-1))∧aaf ((aac r2.2.1.works y1.worker).stack) (wi (((((aac r2.2.1.works y1.worker).stack).length:Nat):Int)-1))<((r2.2.1.tasks.length:Nat):Int) then
   if 0≤wi (((((aac r2.2.1.works y1.worker).stack).length:Nat):Int)-1)∧wi (((((aac r2.2.1.works y1.worker).stack).length:Nat):Int)-1)≤((((aac r2.2.1.works y1.worker).stack).length:Nat):Int) then
   if (((([]:List Int).length+(((aac r2.2.1.works y1.worker).stack).take (wi (((((aac r2.2.1.works y1.worker).stack).length:Nat):Int)-1):Int).toNat).length:Nat)):Int)<1000000000000 then
   if 0≤y1.worker∧y1.worker<(((abP r2.2.1.works y1.worker).length:Nat):Int) then
   if 0≤y1.task∧y1.task<(((abv r2.2.1.tasks (aaf ((aac r2.2.1.works y1.worker).stack) (wi (((((aac r2.2.1.works y1.worker).stack).length:Nat):Int)-1))) (fun x =>{ x with view:={ x.view with worker:=(-1) } })).length:Nat):Int) then
   some ((true,()),(({ r2.2.1 with tasks:=abv (abv r2.2.1.tasks (aaf ((aac r2.2.1.works y1.worker).stack) (wi (((((aac r2.2.1.works y1.worker).stack).length:Nat):Int)-1))) (fun x =>{ x with view:={ x.view with worker:=(-1) } })) y1.task (fun x =>{ x with view:={ x.view with phase:=4 } }),works:=ac8 (abP r2.2.1.works y1.worker) y1.worker (fun x =>{ x with stack:=([])++(((aac r2.2.1.works y1.worker).stack).take (wi (((((aac r2.2.1.works y1.worker).stack).length:Nat):Int)-1):Int).toNat) }) }:SaV),()))
   else none
   else none
   else none
   else none
   else none
  else none
 else none
noncomputable abbrev adc:Con SR1:=⟨92,[.ref 64,.val 2],[.sh .b],fun x =>acE x.1 x.2.1⟩
noncomputable def aeF:List (Nat×Func):=[(140,Tryz.f140)]
theorem aeG:CO Tryz.prog adc:=aaC aaB Tryz.func92 [abZ,abM] ⟨aco,ab6,trivial⟩ aeF ⟨Tryz.func140,trivial⟩ (fun _ =>[]) [] fun x =>by kernel_rfl
noncomputable def abI (y0:SaV) (y1:Ev):Option ((Bool×Unit)×(SaV×Unit)) :=
 if 0≤y1.task∧y1.task<((y0.tasks.length:Nat):Int) then
  if 0≤y1.worker∧y1.worker<((y0.works.length:Nat):Int) then
   if y1.kind=7 then
   if ((aac y0.works y1.worker).walk)≠y1.task then
   some ((false,()),(({ y0 with works:=abP y0.works y1.worker }:SaV),()))
   else
   if y1.level<((aac y0.works y1.worker).low) then
   some ((false,()),(({ y0 with works:=abP y0.works y1.worker }:SaV),()))
   else
   if ((aaa y0.tasks y1.task).view.level)<y1.level then
   some ((false,()),(({ y0 with tasks:=aa1 y0.tasks y1.task,works:=abP y0.works y1.worker }:SaV),()))
   else
   if 0≤((aac y0.works y1.worker).up) then
   if ((aac y0.works y1.worker).up)≠y1.level then
   some ((false,()),(({ y0 with tasks:=aa1 y0.tasks y1.task,works:=abP y0.works y1.worker }:SaV),()))
   else
   some ((true,()),(({ y0 with tasks:=aa1 y0.tasks y1.task,works:=ac8 y0.works y1.worker (fun x =>{ x with walk:=(-1) }) }:SaV),()))
   else
   some ((true,()),(({ y0 with tasks:=aa1 y0.tasks y1.task,works:=ac8 y0.works y1.worker (fun x =>{ x with walk:=(-1) }) }:SaV),()))
   else
   if y1.kind=11 then
   if ((aac y0.works y1.worker).walk)=(-1) then
   some ((false,()),(({ y0 with works:=abP y0.works y1.worker }:SaV),()))
   else
   (lpF (σ:=Int×Int×Unit) (β:=(Int×Int×Unit)⊕((Bool×Unit)×(SaV×Unit))) (fun self3 x1 =>
   if x1.2.1<((y0.tasks.length:Nat):Int) then
   if 0≤x1.1 then
   if x1.1<((y0.tasks.length:Nat):Int) then
   if 0≤x1.1∧x1.1<((y0.tasks.length:Nat):Int) then
   if ((aaa y0.tasks x1.1).view.parent)=((aac y0.works y1.worker).walk) then
   Option.map Sum.inr (
   if y1.level≤((aaa y0.tasks y1.task).view.level) then
   some ((false,()),(({ y0 with tasks:=aa1 y0.tasks y1.task,works:=abP y0.works y1.worker }:SaV),()))
   else
   if 0≤(aac (abP y0.works y1.worker) y1.worker).walk∧(aac (abP y0.works y1.worker) y1.worker).walk<(((aa1 y0.tasks y1.task).length:Nat):Int) then
   if ((aaa (aa1 y0.tasks y1.task) ((aac (abP y0.works y1.worker) y1.worker).walk)).view.level)<y1.level then
   some ((false,()),(({ y0 with tasks:=aa1 (aa1 y0.tasks y1.task) ((aac (abP y0.works y1.worker) y1.worker).walk),works:=abP (abP y0.works y1.worker) y1.worker }:SaV),()))
   else
   if 0≤((aac (abP y0.works y1.worker) y1.worker).up) then
   if ((aac (abP y0.works y1.worker) y1.worker).up)≠y1.level then
   some ((false,()),(({ y0 with tasks:=aa1 (aa1 y0.tasks y1.task) ((aac (abP y0.works y1.worker) y1.worker).walk),works:=abP (abP y0.works y1.worker) y1.worker }:SaV),()))
   else
   if y1.level=y1.level then
   some ((true,()),(({ y0 with tasks:=abv (aa1 (aa1 y0.tasks y1.task) ((aac (abP y0.works y1.worker) y1.worker).walk)) y1.task (fun x =>{ x with view:={ x.view with level:=y1.level } }),works:=ac8 (abP y0.works y1.worker) y1.worker (fun x =>{ x with up:=y1.level }) }:SaV),()))
   else none
   else
   if y1.level=y1.level then
   some ((true,()),(({ y0 with tasks:=abv (aa1 (aa1 y0.tasks y1.task) ((aac (abP y0.works y1.worker) y1.worker).walk)) y1.task (fun x =>{ x with view:={ x.view with level:=y1.level } }),works:=ac8 (abP y0.works y1.worker) y1.worker (fun x =>{ x with up:=y1.level }) }:SaV),()))
   else none
   else none
   )
   else
   self3 ((aaa y0.tasks x1.1).view.parent,wi (x1.2.1+1),())
   else none
   else
   some (Sum.inl (x1.1,x1.2.1,()))
   else
   some (Sum.inl (x1.1,x1.2.1,()))
   else
   some (Sum.inl (x1.1,x1.2.1,()))
   ) 18446744073709551616 (y1.task,0,())).bind fun z2 =>match z2 with
   | .inr o4 =>some o4
   | .inl z2 =>
   some ((false,()),(({ y0 with works:=abP y0.works y1.worker }:SaV),()))
   else
   if y0.c.age<1 then
   some ((false,()),(y0,()))
   else
   if 0≤y1.worker then
   if y1.worker<((y0.works.length:Nat):Int) then
   if 0≤y1.worker∧y1.worker<((y0.works.length:Nat):Int) then
   if ((((aac y0.works y1.worker).stack).length:Nat):Int)=0 then
   if 0≤y1.worker∧y1.worker<(((abP y0.works y1.worker).length:Nat):Int) then
   if ¬ (((aac (abP y0.works y1.worker) y1.worker).walk)=(-1)) then
   some ((false,()),(({ y0 with works:=abP y0.works y1.worker }:SaV),()))
   else
   if ((aaa y0.tasks y1.task).view.phase)=0 then
   some ((false,()),(({ y0 with tasks:=aa1 y0.tasks y1.task,works:=abP y0.works y1.worker }:SaV),()))
   else
   if y1.level≠(wi (((aaa y0.tasks y1.task).view.level)+1)) then
   some ((false,()),(({ y0 with tasks:=aa1 y0.tasks y1.task,works:=abP y0.works y1.worker }:SaV),()))
   else
   some ((true,()),(({ y0 with tasks:=abv y0.tasks y1.task (fun x =>{ x with view:={ x.view with level:=y1.level } }),works:=abP y0.works y1.worker }:SaV),()))
   else none
   else
   some ((false,()),(({ y0 with works:=abP y0.works y1.worker }:SaV),()))
   else none
   else
   some ((false,()),(y0,()))
   else
   some ((false,()),(y0,()))
  else none
 else none
noncomputable abbrev adx:Con SR1:=⟨93,[.ref 64,.val 2],[.sh .b],fun x =>abI x.1 x.2.1⟩
noncomputable def aeW:List (Nat×Func):=[(142,Tryz.f142),(87,Tryz.f87),(94,Tryz.f94)]
theorem aeX:CO Tryz.prog adx:=aaC aaB Tryz.func93 [] trivial aeW ⟨Tryz.func142,Tryz.func87,Tryz.func94,trivial⟩ (fun f =>(get [(142,[(2,.loopR [.rg 1 sI_,.rg 7 sI_] 18446744073709551616 0)])] f).getD []) [] fun x =>by kernel_rfl
noncomputable def aak (y0:SaV) (y1:Ev):Option ((Bool×Unit)×(SaV×Unit)) :=
 ((
  if y1.kind=1 then
   some (decide (y1.kind=1),())
  else
  some (decide (y1.kind=2),())
 ):Option (Bool×Unit)).bind fun z1 =>
 if z1.1=true then
  (abJ y0 y1).bind fun r2 =>
  some ((r2.1.1,()),(r2.2.1,()))
 else
 ((
  if y1.kind=3 then
   some (decide (y1.kind=3),())
  else
  some (decide (y1.kind=4),())
 ):Option (Bool×Unit)).bind fun z3 =>
 if z3.1=true then
  (abj y0 y1).bind fun r4 =>
  some ((r4.1.1,()),(r4.2.1,()))
 else
 ((
  if y1.kind=6 then
   some (decide (y1.kind=6),())
  else
  some (decide (y1.kind=8),())
 ):Option (Bool×Unit)).bind fun z5 =>
 if z5.1=true then
  (ace y0 y1).bind fun r6 =>
  some ((r6.1.1,()),(r6.2.1,()))
 else
 ((
  if y1.kind=5 then
   some (decide (y1.kind=5),())
  else
  some (decide (y1.kind=9),())
 ):Option (Bool×Unit)).bind fun z7 =>
 if z7.1=true then
  (abk y0 y1).bind fun r8 =>
  some ((r8.1.1,()),(r8.2.1,()))
 else
 if y1.kind=10 then
  (acE y0 y1).bind fun r9 =>
  some ((r9.1.1,()),(r9.2.1,()))
 else
 ((
  if y1.kind=7 then
   some (decide (y1.kind=7),())
  else
  if y1.kind=11 then
   some (decide (y1.kind=11),())
  else
  some (decide (y1.kind=12),())
 ):Option (Bool×Unit)).bind fun z10 =>
 if z10.1=true then
  (abI y0 y1).bind fun r11 =>
  some ((r11.1.1,()),(r11.2.1,()))
 else
 if y1.kind=13 then
  if 0≤y1.worker then
   if y1.worker<((y0.works.length:Nat):Int) then
   if 0≤y1.worker∧y1.worker<((y0.works.length:Nat):Int) then
   if ((((aac y0.works y1.worker).stack).length:Nat):Int)=0 then
   if 0≤y1.worker∧y1.worker<(((abP y0.works y1.worker).length:Nat):Int) then
   if ((aac (abP y0.works y1.worker) y1.worker).walk)=(-1) then
   (aaF y0.queue y0.c y1).bind fun r12 =>
   some ((r12.1.1,()),(({ y0 with works:=abP y0.works y1.worker,queue:=r12.2.1 }:SaV),()))
   else
   some ((false,()),(({ y0 with works:=abP y0.works y1.worker }:SaV),()))
   else none
   else
   some ((false,()),(({ y0 with works:=abP y0.works y1.worker }:SaV),()))
   else none
   else
   some ((false,()),(y0,()))
  else
  some ((false,()),(y0,()))
 else
 if y1.kind=14 then
  if 0≤y1.worker then
   if y1.worker<((y0.works.length:Nat):Int) then
   if 0≤y1.worker∧y1.worker<((y0.works.length:Nat):Int) then
   if ((((aac y0.works y1.worker).stack).length:Nat):Int)=0 then
   if 0≤y1.worker∧y1.worker<(((abP y0.works y1.worker).length:Nat):Int) then
   if ((aac (abP y0.works y1.worker) y1.worker).walk)=(-1) then
   if y1.other≠y1.worker then
   if 0≤y1.other then
   if y1.other<y0.c.workers then
   if 0≤y1.task∧y1.task<((y0.tasks.length:Nat):Int) then
   some ((decide (((aaa y0.tasks y1.task).view.phase)≠0),()),(({ y0 with tasks:=aa1 y0.tasks y1.task,works:=abP y0.works y1.worker }:SaV),()))
   else none
   else
   some ((false,()),(({ y0 with works:=abP y0.works y1.worker }:SaV),()))
   else
   some ((false,()),(({ y0 with works:=abP y0.works y1.worker }:SaV),()))
   else
   some ((false,()),(({ y0 with works:=abP y0.works y1.worker }:SaV),()))
   else
   some ((false,()),(({ y0 with works:=abP y0.works y1.worker }:SaV),()))
   else none
   else
   some ((false,()),(({ y0 with works:=abP y0.works y1.worker }:SaV),()))
   else none
   else
   some ((false,()),(y0,()))
  else
  some ((false,()),(y0,()))
 else
 if y1.kind=15 then
  if 0≤y1.task∧y1.task<((y0.tasks.length:Nat):Int) then
   if ((aaa y0.tasks y1.task).view.phase)≠0 then
   some ((decide (((aaa y0.tasks y1.task).view.phase)≠1),()),(({ y0 with tasks:=aa1 y0.tasks y1.task }:SaV),()))
   else
   some ((false,()),(({ y0 with tasks:=aa1 y0.tasks y1.task }:SaV),()))
  else none
 else
 if y1.kind=16 then
  ((
   if 0≤y1.worker then
   if y1.worker<((y0.works.length:Nat):Int) then
   if 0≤y1.worker∧y1.worker<((y0.works.length:Nat):Int) then
   if ((((aac y0.works y1.worker).stack).length:Nat):Int)=0 then
   if 0≤y1.worker∧y1.worker<(((abP y0.works y1.worker).length:Nat):Int) then
   if y1.worker=y1.worker then
   if 0≤y1.worker∧y1.worker<(((abP y0.works y1.worker).length:Nat):Int) then
   some (({ y0 with works:=ac8 (abP y0.works y1.worker) y1.worker (fun x =>{ x with sleeps:=decide ((x.walk)=(-1)) }) }:SaV),())
   else none
   else none
   else none
   else
   if y1.worker=y1.worker then
   if 0≤y1.worker∧y1.worker<(((abP y0.works y1.worker).length:Nat):Int) then
   some (({ y0 with works:=ac8 (abP y0.works y1.worker) y1.worker (fun x =>{ x with sleeps:=false }) }:SaV),())
   else none
   else none
   else none
   else
   if y1.worker=y1.worker then
   if 0≤y1.worker∧y1.worker<((y0.works.length:Nat):Int) then
   some (({ y0 with works:=ac8 y0.works y1.worker (fun x =>{ x with sleeps:=false }) }:SaV),())
   else none
   else none
   else
   if y1.worker=y1.worker then
   if 0≤y1.worker∧y1.worker<((y0.works.length:Nat):Int) then
   some (({ y0 with works:=ac8 y0.works y1.worker (fun x =>{ x with sleeps:=false }) }:SaV),())
   else none
   else none
  ):Option (SaV×Unit)).bind fun z13 =>
  if 0≤y1.worker∧y1.worker<((z13.1.works.length:Nat):Int) then
   some (((aac z13.1.works y1.worker).sleeps,()),(({ z13.1 with works:=abP z13.1.works y1.worker }:SaV),()))
  else none
 else
 if y1.kind=17 then
  if 0≤y1.worker∧y1.worker<((y0.works.length:Nat):Int) then
   if y1.other=1 then
   some ((true,()),(({ y0 with works:=ac8 y0.works y1.worker (fun x =>{ x with sleeps:=false }) }:SaV),()))
   else
   some ((decide (y1.other=2),()),(({ y0 with works:=ac8 y0.works y1.worker (fun x =>{ x with sleeps:=false }) }:SaV),()))
  else none
 else
 if y1.kind=18 then
  if 0≤y1.other then
   some ((decide (y1.other<y0.c.workers),()),(y0,()))
  else
  some ((false,()),(y0,()))
 else
 if 0≤y1.task∧y1.task<((y0.tasks.length:Nat):Int) then
  some ((decide (((aaa y0.tasks y1.task).view.phase)≠0),()),(({ y0 with tasks:=aa1 y0.tasks y1.task }:SaV),()))
 else none
noncomputable abbrev adA:Con SR1:=⟨66,[.ref 64,.val 2],[.sh .b],fun x =>aak x.1 x.2.1⟩
noncomputable def ae1:List (Nat×Func):=[(94,Tryz.f94)]
theorem ae2:CO Tryz.prog adA:=aaC aaB Tryz.func66 [ady,adw,adG,adz,adc,adx,acu] ⟨aeY,aeU,afn,aeZ,aeG,aeX,adf,trivial⟩ ae1 ⟨Tryz.func94,trivial⟩ (fun _ =>[]) [(4,.cut [.rg 8 .b] [0,6]),(7,.cut [.rg 14 .b] [0,6]),(10,.cut [.rg 20 .b] [0,6]),(13,.cut [.rg 26 .b] [0,6]),(19,.cut [.rg 37 .b] [0,6]),(29,.cut [.ob 0 64] [6])] fun x =>by kernel_rfl
noncomputable def aas (y0:SaV) (y1:Ev):Option ((Bool×Unit)×(SaV×Unit)) :=
 (aad y0 y1).bind fun r1 =>
 if (!r1.1.1)=true then
  some ((false,()),(r1.2.1,()))
 else
 (aak r1.2.1 y1).bind fun r2 =>
 if (!r2.1.1)=true then
  some ((false,()),(r2.2.1,()))
 else
 if y1.worker<r2.2.1.c.workers then
  if 0≤y1.worker∧y1.worker<((r2.2.1.works.length:Nat):Int) then
   some ((true,()),(({ r2.2.1 with works:=ac8 r2.2.1.works y1.worker (fun x =>{ x with last:=y1 }) }:SaV),()))
  else none
 else
 some ((true,()),(r2.2.1,()))
noncomputable abbrev adR:Con SR1:=⟨37,[.ref 64,.val 2],[.sh .b],fun x =>aas x.1 x.2.1⟩
theorem afL:CO Tryz.prog adR:=aaC aaB Tryz.func37 [adI,adA] ⟨afq,ae2,trivial⟩ [] trivial (fun _ =>[]) [] fun x =>by kernel_rfl
noncomputable def abu (y0:Cfg) (y1:List Ev):Option ((List VwV×Int×Int×Unit)×(Unit)) :=
 (aj4 y0).bind fun r1 =>
 if r1.1.1≠0 then
  some (([],0,r1.1.1,()),())
 else
 (acM y0).bind fun r2 =>
 (lpF (σ:=Int×Int×Int×SaV×Unit) (β:=Int×Int×Int×SaV×Unit) (fun self5 x3 =>
  if x3.2.2.1<((y1.length:Nat):Int) then
   if 0≤x3.2.2.1∧x3.2.2.1<((y1.length:Nat):Int) then
   (aas x3.2.2.2.1 (aa5 y1 x3.2.2.1)).bind fun r6 =>
   if (!r6.1.1)=true then
   some (x3.2.2.1,6,x3.2.2.1,r6.2.1,())
   else
   self5 (x3.1,x3.2.1,wi (x3.2.2.1+1),r6.2.1,())
   else none
  else
  some (x3.1,x3.2.1,x3.2.2.1,x3.2.2.2.1,())
 ) 18446744073709551616 (((y1.length:Nat):Int),0,0,r2.1.1,())).bind fun z4 =>
 (acM y0).bind fun r7 =>
 (lpF (σ:=Int×SaV×Unit) (β:=Int×SaV×Unit) (fun self10 x8 =>
  if x8.1<z4.1 then
   if 0≤x8.1∧x8.1<((y1.length:Nat):Int) then
   (aas x8.2.1 (aa5 y1 x8.1)).bind fun r11 =>
   self10 (wi (x8.1+1),r11.2.1,())
   else none
  else
  some (x8.1,x8.2.1,())
 ) 18446744073709551616 (0,r7.1.1,())).bind fun z9 =>
 (lpF (σ:=List VwV×Int×SaV×Unit) (β:=List VwV×Int×SaV×Unit) (fun self14 x12 =>
  if x12.2.1<((x12.2.2.1.tasks.length:Nat):Int) then
   if 0≤x12.2.1∧x12.2.1<((x12.2.2.1.tasks.length:Nat):Int) then
   if (((x12.1.length+([(aaa x12.2.2.1.tasks x12.2.1).view]:List VwV).length:Nat)):Int)<1000000000000 then
   self14 (x12.1++([(aaa x12.2.2.1.tasks x12.2.1).view]),wi (x12.2.1+1),x12.2.2.1,())
   else none
   else none
  else
  some (x12.1,x12.2.1,x12.2.2.1,())
 ) 18446744073709551616 ([],0,z9.2.1,())).bind fun z13 =>
 some ((z13.1,z4.1,z4.2.1,()),())
noncomputable abbrev ad2:Con SR1:=⟨22,[.val 13,.sh (.ro 2)],[.sh (.row 60),.sh sI_,.sh sI_],fun x =>abu x.1 x.2.1⟩
theorem af0:CO Tryz.prog ad2:=aaC aaB Tryz.func22 [alw,ae3,adR] ⟨aoU,ahz,afL,trivial⟩ [] trivial (fun _ =>[]) [(18,.loop [.rg 13 (.row 60),.rg 14 sI_,.ob 1000010 64] 18446744073709551616 4),(7,.loop [.rg 8 sI_,.rg 9 sI_,.rg 11 sI_,.rg 10 (.own 64)] 18446744073709551616 0),(13,.loop [.rg 12 sI_,.rg 10 (.own 64)] 18446744073709551616 2)] fun x =>by kernel_rfl
end
section
open Go Go.RowKit
set_option maxRecDepth 1000000
variable [Tb]
section
variable {s:SaV} {k w t o l:Int}
def rgR (c:Cfg) (k w t o l:Int):Prop :=
 (if k=2∨k=16∨k=17∨k=18 then t=0 else 0≤t∧t<c.tasks) ∧
 (if k=1∨k=3∨k=7∨k=11∨k=12∨k=14∨k=19 then 0≤l∧l<c.levels else if k=2 then True else l=0) ∧
 (if k=3∨k=6∨k=8 then 0≤o∧o<c.tasks else if k=1∨k=2∨k=17∨k=14∨k=18 then True else o=0) ∧
 (if k=1∨k=2 then w=c.workers∨(0≤w∧w<c.workers) else if k=18 then 0≤w∧w≤c.workers else 0≤w∧w<c.workers)
theorem ayM (h:k<1):aad s ⟨k,w,t,o,l⟩=some ((false,()),(s,())):=by
 unfold aad
 try simp only [aa1,abP,abv,ac8]
 exact if_pos h
theorem ayO (h:19<k):aad s ⟨k,w,t,o,l⟩=some ((false,()),(s,())):=by
 unfold aad
 try simp only [aa1,abP,abv,ac8]
 exact (if_neg (show ¬ k<1 by omega)).trans (if_pos h)
set_option maxHeartbeats 4000000 in
theorem ayN (h1:1≤k) (h2:k≤19) (ht:((s.tasks.length:Nat):Int)=s.c.tasks) (hw:((s.works.length:Nat):Int)=s.c.workers) :
  ∃ b,aad s ⟨k,w,t,o,l⟩=some ((b,()),(s,()))∧(b=true↔rgR s.c k w t o l∧((0≤w∧w<s.c.workers)→(aac s.works w).sleeps=decide (k=17))):=by
 obtain ⟨n,hn⟩:∃ n:Nat,n<19∧k=(n:Int)+1:=⟨(k-1).toNat,by omega,by omega⟩
 obtain ⟨hn,rfl⟩:=hn
 unfold aad adQ rgR
 try simp only [aa1,abP,abv,ac8]
 rcases n with _ | _ | _ | _ | _ | _ | _ | _ | _ | _ | _ | _ | _ | _ | _ | _ | _ | _ | _ | n
 all_goals first | exact absurd hn (by omega) | skip
 all_goals clear h1 h2 hn
 all_goals simp (config:={ decide:=true }) only [if_true,if_false,aav,ht,hw]
 all_goals clear ht
 all_goals generalize hS:(aac s.works w).sleeps=S
 all_goals have hset:(0≤w∧w<s.c.workers)→s.works.set w.toNat (aac s.works w)=s.works:=fun h =>anx (α:=WlV) (xs:=s.works) (d:=(dfR 62:WlV)) ⟨h.1,by have h2:=h.2; rw [← hw] at h2; exact h2⟩
 all_goals repeat' split
 all_goals (try simp only [aav,if_true,if_false,decide_eq_true_eq,Bool.false_eq_true,hS,hw])
 all_goals repeat' split
 all_goals (try simp only [aav,if_true,if_false,decide_eq_true_eq,Bool.false_eq_true,hS,hw])
 all_goals repeat' split
 all_goals (first
  | (refine ⟨_,rfl,?_⟩; simp only [decide_eq_true_eq,Bool.false_eq_true,true_and,and_true,true_iff,false_iff] at *; omega)
  | (exfalso; omega)
  | (rw [hset ⟨by omega,by omega⟩]; refine ⟨_,rfl,?_⟩; rw [decide_eq_true_eq]; exact ⟨fun e =>⟨by (try simp only [true_and,and_true]); omega,fun _ =>e⟩,fun h =>h.2 ⟨by omega,by omega⟩⟩)
  | skip)
end
theorem lpS {σ β:Type} (F:(σ→Option β)→σ→Option β) (k:Nat) (x:σ):lpF F (k+1) x=F (lpF F k) x:=rfl
section
variable {i:Int}
theorem abO {xs:List TkP} (h:0≤i∧i<(xs.length:Int)):xs.set i.toNat (aah xs i)=xs:=anx h
theorem abH {xs:List WkP} (h:0≤i∧i<(xs.length:Int)):xs.set i.toNat (aam xs i)=xs:=anx h
theorem aaQ {xs:List TkV} (h:0≤i∧i<(xs.length:Int)):xs.set i.toNat (aaa xs i)=xs:=anx h
theorem aaP {xs:List WlV} (h:0≤i∧i<(xs.length:Int)):xs.set i.toNat (aac xs i)=xs:=anx h
theorem au2 {α:Type} {d:α} {xs:List α} {v:α} (h:0≤i∧i<(xs.length:Int)):atL d (xs.set i.toNat v) i=v:=by
 unfold atL
 rw [List.getElem?_set_self (by omega)]; rfl
theorem akj {α:Type} {d:α} {xs:List α} {v:α} {j:Int} (hi:0≤i) (hj:0≤j) (h:i≠j):atL d (xs.set i.toNat v) j=atL d xs j:=by
 unfold atL
 rw [List.getElem?_set_ne (by omega)]
theorem aiX {xs:List TkP} {v:TkP} (h:0≤i∧i<(xs.length:Int)):aah (xs.set i.toNat v) i=v:=au2 h
theorem ai2 {xs:List WkP} {v:WkP} (h:0≤i∧i<(xs.length:Int)):aam (xs.set i.toNat v) i=v:=au2 h
theorem aep {xs:List TkV} {v:TkV} (h:0≤i∧i<(xs.length:Int)):aaa (xs.set i.toNat v) i=v:=au2 h
theorem aeN {xs:List WlV} {v:WlV} (h:0≤i∧i<(xs.length:Int)):aac (xs.set i.toNat v) i=v:=au2 h
end
def leK (a b:KyV):Prop:=a.deadline<b.deadline∨a.deadline=b.deadline∧a.arrival<b.arrival
noncomputable def aa8 (s:List Int):Int:=if (s.length:Int)=0 then -1 else aaf s ((s.length:Int)-1)
def avh (s:List Int) (walks:Bool):Bool:=if (s.length:Int)=0 then !walks else false
theorem ae8 {x:WkP} (h:x.stack.length≤1000000):aci x=some ((aa8 x.stack,()),(x,())):=by
 unfold aci aa8
 have e1:wi ((x.stack.length:Int)-1)=(x.stack.length:Int)-1:=aa2 (aae (by omega))
 rw [e1]
 split
 ·rfl
 ·rw [if_pos (by omega)]
theorem abr {x:WkP}:abT x=some ((avh x.stack x.walks,()),(x,())):=by
 unfold abT avh
 split<;>rfl
noncomputable def chV (kids:List Int) (a:Int):Int:=if a<0 then -1 else if (kids.length:Int)≤a then -1 else aaf kids a
theorem ac1 {x:TkP} {a:Int}:ac3 x a=some ((chV x.kids a,()),(x,())):=by
 unfold ac3 chV
 split
 ·rfl
 ·split
  ·rfl
  ·rw [if_pos (by omega)]
noncomputable def ahS (P:List Ins) (kids:List Int):Nat→Int→Int×Ins×Bool
 | 0,a =>(a,⟨0,0,0⟩,false)
 | f+1,a =>if a<(P.length:Int) then (if (acA P a).op=1 then (a,acA P a,true) else if (acA P a).op=2∧chV kids (acA P a).a ≠ -1 then (a,acA P a,true) else ahS P kids f (a+1)) else (a,⟨0,0,0⟩,false)
noncomputable def an1 (P:List Ins) (kids:List Int) (a:Int):Int×Ins×Bool:=ahS P kids (P.length+1) a
theorem an2 {P:List Ins} {kids:List Int}:∀ {f:Nat} {a:Int},0≤a→(P.length:Int)+1-a≤f→a≤(P.length:Int) →
  (a≤(ahS P kids f a).1∧(ahS P kids f a).1≤(P.length:Int))∧((ahS P kids f a).2.2=true→(ahS P kids f a).1<(P.length:Int)∧(ahS P kids f a).2.1=acA P (ahS P kids f a).1)
 | 0,a,h0,h1,h2 =>⟨⟨Int.le_refl _,h2⟩,fun h =>by cases h⟩
 | f+1,a,h0,h1,h2 =>by
  unfold ahS
  split
  ·rename_i hlt
   split
   ·exact ⟨⟨Int.le_refl _,h2⟩,fun _ =>⟨hlt,rfl⟩⟩
   ·split
    ·exact ⟨⟨Int.le_refl _,h2⟩,fun _ =>⟨hlt,rfl⟩⟩
    ·have ih:=an2 (P:=P) (kids:=kids) (f:=f) (a:=a+1) (by omega) (by omega) (by omega)
     exact ⟨⟨by omega,ih.1.2⟩,ih.2⟩
  ·exact ⟨⟨Int.le_refl _,h2⟩,fun h =>by cases h⟩
theorem akD {P:List Ins} {kids:List Int} {a:Int} (h0:0≤a) (h2:a≤(P.length:Int)) :
  (a≤(an1 P kids a).1∧(an1 P kids a).1≤(P.length:Int))∧((an1 P kids a).2.2=true→(an1 P kids a).1<(P.length:Int)∧(an1 P kids a).2.1=acA P (an1 P kids a).1):=an2 h0 (by omega) h2
theorem ape {x:TkP} (h0:0≤x.at_) (hn:x.prog.length≤1000000):abo x=some (((an1 x.prog x.kids x.at_).2.1,(an1 x.prog x.kids x.at_).2.2,()),({ x with at_:=(an1 x.prog x.kids x.at_).1 },())):=by
 unfold abo
 generalize hF:(fun (self3:Ins×TkP×Unit→Option ((Ins×TkP×Unit)⊕((Ins×Bool×Unit)×(TkP×Unit)))) (x1:Ins×TkP×Unit) =>_)=F
 have run:∀ (f k:Nat) (a:Int) (z:Ins),0≤a→(x.prog.length:Int)+1-a≤f→f≤k →
   lpF F (k+1) (z,{ x with at_:=a },())=some (if (ahS x.prog x.kids f a).2.2=true then .inr (((ahS x.prog x.kids f a).2.1,true,()),({ x with at_:=(ahS x.prog x.kids f a).1 },())) else .inl (z,{ x with at_:=(ahS x.prog x.kids f a).1 },()))∧((ahS x.prog x.kids f a).2.2=false→(ahS x.prog x.kids f a).2.1=⟨0,0,0⟩):=by
  intro f
  induction f with
  | zero =>
   intro k a z h1 h2 h3
   rw [lpS]
   subst hF
   refine ⟨?_,fun _ =>rfl⟩
   exact if_neg (show ¬ a<(x.prog.length:Int) by omega)
  | succ f ih =>
   intro k a z h1 h2 h3
   obtain ⟨k,rfl⟩:∃ k',k=k'+1:=⟨k-1,by omega⟩
   rw [lpS]
   have ih':=ih k (a+1) z (by omega) (by omega) (by omega)
   generalize lpF F (k+1)=self at *
   subst hF
   unfold ahS
   by_cases hlt:a<(x.prog.length:Int)
   ·have e1:wi (a+1)=a+1:=aa2 (aae (by omega))
    simp only [hlt,h1,and_self,if_true,ac1,aav,e1]
    by_cases o1:(acA x.prog a).op=1
    ·simp only [o1,if_true]
     exact ⟨rfl,fun h =>by cases h⟩
    ·simp only [o1,if_false]
     by_cases o2:(acA x.prog a).op=2
     ·simp only [o2,if_true,true_and]
      by_cases o3:chV x.kids (acA x.prog a).a ≠ -1
      ·simp only [if_pos o3]
       exact ⟨rfl,fun h =>by cases h⟩
      ·simp only [if_neg o3]
       exact ih'
     ·simp only [o2,if_false,false_and]
      exact ih'
   ·simp only [if_neg hlt]
    exact ⟨rfl,fun _ =>by trivial⟩
 obtain ⟨r1,r2⟩:=run (x.prog.length+1) 18446744073709551615 x.at_ ⟨0,0,0⟩ h0 (by omega) (by omega)
 have r1:lpF F 18446744073709551616 (⟨0,0,0⟩,x,())=_:=r1
 rw [r1]
 unfold an1
 cases hb:(ahS x.prog x.kids (x.prog.length+1) x.at_).2.2 with
 | true =>rw [if_pos rfl]; rfl
 | false =>rw [if_neg (by decide),r2 hb]; rfl
def ar9 (pa:Int→Int) (x:Int):Nat→Int→Bool
 | 0,_ =>false
 | n+1,t =>if pa t=-1 then false else if pa t=x then true else ar9 pa x n (pa t)
end
end Go.Proofs.YtkmkhldmflebkaaGreat
