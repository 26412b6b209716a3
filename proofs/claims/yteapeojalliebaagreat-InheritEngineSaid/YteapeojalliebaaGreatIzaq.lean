/- What InheritEngine calls,in the evaluator's form. An engine's loops,Done and Events by names. InheritEngine's own loops by names. Floors: what a walk along settled waits may leave,and that it holds. InheritEngine: the program's check says yes to good events. -/
import Derived.Test.YteapeojalliebaaGreatIzal
import Derived.Test.YteapeojalliebaaGreatIzap
set_option linter.all false
namespace Go.Proofs.YteapeojalliebaaGreat
section
open Go Go.RowKit
set_option maxRecDepth 100000
variable [Tb]
abbrev afK (xs:List W30) (i:Int):W30:=atL (dfR 67:TR 67) xs i
noncomputable def apK (b:List Int):Option ((List EntV×Unit)×(Unit)) :=
 (lpF (σ:=List EntV×Int×Unit) (β:=List EntV×Int×Unit) (fun self3 x1 =>
 if (wi (x1.2.1+1))<((b.length:Nat):Int) then
 if ((x1.1.length:Nat):Int)<65536 then
 if 0≤x1.2.1∧x1.2.1<((b.length:Nat):Int) then
 if 0≤wi (x1.2.1+1)∧wi (x1.2.1+1)<((b.length:Nat):Int) then
 if (aj4 b (wi (x1.2.1+1)))=(aj4 b (wi (x1.2.1+1))) then
 if (aj4 b x1.2.1)=(aj4 b x1.2.1) then
 if (Int.tmod (wi (aj4 b x1.2.1)) 4)=1 then
 if (((x1.1.length+([(⟨(Int.tmod (wi (aj4 b x1.2.1)) 4),0⟩:EntV)]:List EntV).length:Nat)):Int)<1000000000000 then
 self3 (x1.1++([(⟨(Int.tmod (wi (aj4 b x1.2.1)) 4),0⟩:EntV)]),wi (x1.2.1+2),())
 else none
 else
 if (Int.tmod (wi (aj4 b x1.2.1)) 4)=3 then
 if (((x1.1.length+([(⟨(Int.tmod (wi (aj4 b x1.2.1)) 4),0⟩:EntV)]:List EntV).length:Nat)):Int)<1000000000000 then
 self3 (x1.1++([(⟨(Int.tmod (wi (aj4 b x1.2.1)) 4),0⟩:EntV)]),wi (x1.2.1+2),())
 else none
 else
 if (((x1.1.length+([(⟨(Int.tmod (wi (aj4 b x1.2.1)) 4),wi (aj4 b (wi (x1.2.1+1)))⟩:EntV)]:List EntV).length:Nat)):Int)<1000000000000 then
 self3 (x1.1++([(⟨(Int.tmod (wi (aj4 b x1.2.1)) 4),wi (aj4 b (wi (x1.2.1+1)))⟩:EntV)]),wi (x1.2.1+2),())
 else none
 else none
 else none
 else none
 else none
 else
 some (x1.1,x1.2.1,())
 else
 some (x1.1,x1.2.1,())
 ) 18446744073709551616 ([],0,())).bind fun z2 =>
 some ((z2.1,()),())
noncomputable abbrev asb:Con SR1:=⟨28,[.sh (.ro 17)],[.sh (.row 5)],fun x =>apK x.1⟩
theorem awp:CO Tryz.prog asb:=aam aah Tryz.func28 [] trivial [(3,.loop [.rg 3 (.row 5),.rg 4 sI_] 18446744073709551616 0)]
noncomputable def al9 (b:List Int) (n:Int):Option ((List EntV×Unit)×(Unit)) :=
 (apK b).bind fun r1 =>
 if n<((r1.1.1.length:Nat):Int) then
 if 0≤n∧n≤((r1.1.1.length:Nat):Int) then
 some ((r1.1.1.take (n:Int).toNat,()),())
 else none
 else
 some ((r1.1.1,()),())
noncomputable abbrev akF:Con SR1:=⟨8,[.sh (.ro 17),.sh sI_],[.sh (.row 5)],fun x =>al9 x.1 x.2.1⟩
theorem aln:CO Tryz.prog akF:=aam aah Tryz.func8 [asb] ⟨awp,trivial⟩
noncomputable def adz (y0:Int):Option ((EntV×Unit)×(Unit)) :=
 some (((⟨0,y0⟩:EntV),()),())
noncomputable abbrev ae7:Con SR1:=⟨29,[.sh sI_],[.val 5],fun x =>adz x.1⟩
theorem ag4:CO Tryz.prog ae7:=aam aah Tryz.func29 [] trivial
noncomputable def abx (y0:Cfg):Option ((List EntV×Unit)×(Unit)) :=
 (lpF (σ:=List EntV×Int×Unit) (β:=List EntV×Int×Unit) (fun self3 x1 =>
 if x1.2.1<(wi (40*((y0.subs.length:Nat):Int))) then
 (adz y0.workers).bind fun r4 =>
 if (((x1.1.length+([r4.1.1]:List EntV).length:Nat)):Int)<1000000000000 then
 self3 (x1.1++([r4.1.1]),wi (x1.2.1+1),())
 else none
 else
 some (x1.1,x1.2.1,())
 ) 18446744073709551616 ([],0,())).bind fun z2 =>
 some ((z2.1,()),())
noncomputable abbrev ach:Con SR1:=⟨9,[.val 13],[.sh (.row 5)],fun x =>abx x.1⟩
theorem acY:CO Tryz.prog ach:=aam aah Tryz.func9 [ae7] ⟨ag4,trivial⟩ [(3,.loop [.rg 3 (.row 5),.rg 4 sI_] 18446744073709551616 0)]
noncomputable def aec (y0:Int) (y1:Int):Option ((Int×Unit)×(Unit)) :=
 if y1<1 then
 some ((0,()),())
 else
 if y1≠0 then
 if (Int.tmod y0 y1)<0 then
 if y1≠0 then
 some ((wi ((Int.tmod y0 y1)+y1),()),())
 else none
 else
 if y1≠0 then
 some (((Int.tmod y0 y1),()),())
 else none
 else none
noncomputable abbrev ag2:Con SR1:=⟨60,[.sh sI_,.sh sI_],[.sh sI_],fun x =>aec x.1 x.2.1⟩
theorem aj9:CO Tryz.prog ag2:=aam aah Tryz.func60 [] trivial
noncomputable def aaR (y0:List Int) (y1:Int) (y2:Int):Option ((Int×Unit)×(Unit)) :=
 if ((y0.length:Nat):Int)=0 then
 some ((0,()),())
 else
 if ((y0.length:Nat):Int)≠0 then
 if 0≤(Int.tmod y1 ((y0.length:Nat):Int))∧(Int.tmod y1 ((y0.length:Nat):Int))<((y0.length:Nat):Int) then
 if ((y0.length:Nat):Int)≠0 then
 if (wi (1+(Int.tmod (wi (Int.tdiv y1 ((y0.length:Nat):Int))) 7)))≠0 then
 (aec (wi (Int.tdiv (ady y0 (Int.tmod y1 ((y0.length:Nat):Int))) (wi (1+(Int.tmod (wi (Int.tdiv y1 ((y0.length:Nat):Int))) 7))))) y2).bind fun r1 =>
 some ((r1.1.1,()),())
 else none
 else none
 else none
 else none
noncomputable abbrev agx:Con SR1:=⟨31,[.sh (.ro 1),.sh sI_,.sh sI_],[.sh sI_],fun x =>aaR x.1 x.2.1 x.2.2.1⟩
theorem ajY:CO Tryz.prog agx:=aam aah Tryz.func31 [ag2] ⟨aj9,trivial⟩
noncomputable def ab2 (y0:List EntV) (y1:EntV) (y2:Int):Option ((List EntV×Unit)×(Unit)) :=
 if 0≤y2∧y2≤((y0.length:Nat):Int) then
 if (((([]:List EntV).length+(y0.take (y2:Int).toNat).length:Nat)):Int)<1000000000000 then
 if ((((([])++(y0.take (y2:Int).toNat)).length+([y1]:List EntV).length:Nat)):Int)<1000000000000 then
 if 0≤y2∧y2≤((y0.length:Nat):Int) then
 if (((((([])++(y0.take (y2:Int).toNat))++([y1])).length+(y0.drop (y2:Int).toNat).length:Nat)):Int)<1000000000000 then
 some ((((([])++(y0.take (y2:Int).toNat))++([y1]))++(y0.drop (y2:Int).toNat),()),())
 else none
 else none
 else none
 else none
 else none
noncomputable abbrev agy:Con SR1:=⟨30,[.sh (.ro 5),.val 5,.sh sI_],[.sh (.row 5)],fun x =>ab2 x.1 x.2.1 x.2.2.1⟩
theorem ajZ:CO Tryz.prog agy:=aam aah Tryz.func30 [] trivial
noncomputable def aed (y0:List Int) (y1:Int) (y2:Int):Option ((List EntV×Unit)×(Unit)) :=
 (lpF (σ:=List EntV×Int×Unit) (β:=List EntV×Int×Unit) (fun self3 x1 =>
 if x1.2.1<y2 then
 (adz x1.2.1).bind fun r4 =>
 (aaR y0 (wi (y1+x1.2.1)) (wi (x1.2.1+1))).bind fun r5 =>
 (ab2 x1.1 r4.1.1 r5.1.1).bind fun r6 =>
 self3 (r6.1.1,wi (x1.2.1+1),())
 else
 some (x1.1,x1.2.1,())
 ) 18446744073709551616 ([],0,())).bind fun z2 =>
 (aaR y0 (wi (y1+y2)) (wi (y2+1))).bind fun r7 =>
 (ab2 z2.1 (⟨1,0⟩:EntV) r7.1.1).bind fun r8 =>
 (aaR y0 (wi ((wi (y1+y2))+1)) 3).bind fun r9 =>
 (lpF (σ:=List EntV×Int×Unit) (β:=List EntV×Int×Unit) (fun self12 x10 =>
 if 0<x10.2.1 then
 (aaR y0 (wi ((wi (y1+y2))+x10.2.1)) y2).bind fun r13 =>
 (adz r13.1.1).bind fun r14 =>
 (aaR y0 (wi (y1+x10.2.1)) (wi (((x10.1.length:Nat):Int)+1))).bind fun r15 =>
 (ab2 x10.1 r14.1.1 r15.1.1).bind fun r16 =>
 self12 (r16.1.1,wi (x10.2.1-1),())
 else
 some (x10.1,x10.2.1,())
 ) 18446744073709551616 (r8.1.1,r9.1.1,())).bind fun z11 =>
 some ((z11.1,()),())
noncomputable abbrev acv:Con SR1:=⟨10,[.sh (.ro 1),.sh sI_,.sh sI_],[.sh (.row 5)],fun x =>aed x.1 x.2.1 x.2.2.1⟩
theorem ac8:CO Tryz.prog acv:=aam aah Tryz.func10 [ae7,agx,agy] ⟨ag4,ajY,ajZ,trivial⟩ [(3,.loop [.rg 7 (.row 5),.rg 8 sI_] 18446744073709551616 0),(8,.loop [.rg 7 (.row 5),.rg 9 sI_] 18446744073709551616 2)]
noncomputable def acu (y0:Cfg):Option ((Int×Unit)×(Unit)) :=
 some ((wi ((wi ((wi (4+y0.heap))+y0.classes))+(wi (2*y0.workers))),()),())
noncomputable abbrev ad9:Con SR1:=⟨47,[.val 13],[.sh sI_],fun x =>acu x.1⟩
theorem afs:CO Tryz.prog ad9:=aam aah Tryz.func47 [] trivial
noncomputable def adL (y0:Cfg):Option ((Int×Unit)×(Unit)) :=
 (acu y0).bind fun r1 =>
 if y0.tasks=y0.tasks then
 if y0.deque=y0.deque then
 if y0.levels=y0.levels then
 if y0.workers=y0.workers then
 some ((wi ((wi (r1.1.1+(wi ((wi (y0.workers*y0.levels))*(wi (2+y0.deque))))))+(wi (5*y0.tasks))),()),())
 else none
 else none
 else none
 else none
noncomputable abbrev acf:Con SR1:=⟨19,[.val 13],[.sh sI_],fun x =>adL x.1⟩
theorem acW:CO Tryz.prog acf:=aam aah Tryz.func19 [ad9] ⟨afs,trivial⟩
noncomputable def amc (y0:List St):Option ((List Ev×Unit)×(Unit)) :=
 (lpF (σ:=List Ev×Int×Unit) (β:=List Ev×Int×Unit) (fun self3 x1 =>
 if x1.2.1<((y0.length:Nat):Int) then
 if 0≤x1.2.1∧x1.2.1<((y0.length:Nat):Int) then
 if (((x1.1.length+([(⟨(azk y0 x1.2.1).ev.kind,(azk y0 x1.2.1).ev.worker,(azk y0 x1.2.1).ev.task,(azk y0 x1.2.1).ev.other,(azk y0 x1.2.1).ev.level⟩:Ev)]:List Ev).length:Nat)):Int)<1000000000000 then
 self3 (x1.1++([(⟨(azk y0 x1.2.1).ev.kind,(azk y0 x1.2.1).ev.worker,(azk y0 x1.2.1).ev.task,(azk y0 x1.2.1).ev.other,(azk y0 x1.2.1).ev.level⟩:Ev)]),wi (x1.2.1+1),())
 else none
 else none
 else
 some (x1.1,x1.2.1,())
 ) 18446744073709551616 ([],0,())).bind fun z2 =>
 some ((z2.1,()),())
noncomputable abbrev akS:Con SR1:=⟨13,[.sh (.ro 6)],[.sh (.row 2)],fun x =>amc x.1⟩
theorem alu:CO Tryz.prog akS:=aam aah Tryz.func13 [] trivial [(3,.loop [.rg 3 (.row 2),.rg 8 sI_] 18446744073709551616 0)]
noncomputable def aE1 (y0:Cfg) (self:Int×InhV×Unit→Option (Int×InhV×Unit)) (x:Int×InhV×Unit):Option (Int×InhV×Unit) :=
 if x.1<y0.tasks then
 if (((x.2.1.levels.length+([(-1)]:List Int).length:Nat)):Int)<1000000000000 then
 self (wi (x.1+1),({ x.2.1 with levels:=x.2.1.levels++([(-1)]) }:InhV),())
 else none
 else
 some (x.1,x.2.1,())
noncomputable def aeu (y0:Cfg):Option ((InhV×Unit)×(Unit)) :=
 if y0.tasks=y0.tasks then
 if 0≤y0.tasks∧y0.tasks≤1099511627776 then
 (lpF (aE1 y0) 18446744073709551616 (0,(⟨[],List.replicate (y0.tasks:Int).toNat false,(mp0:Int→Option WaitV)⟩:InhV),())).bind fun z2 =>
 some ((z2.2.1,()),())
 else none
 else none
noncomputable abbrev agc:Con SR1:=⟨40,[.val 13],[.sh (.own 66)],fun x =>aeu x.1⟩
theorem ah9:CO Tryz.prog agc:=aam aah Tryz.func40 [] trivial [(3,.loop [.rg 12 sI_,.rg 3 (.own 66)] 18446744073709551616 0)]
noncomputable def aDH (y0:InhV) (y1:Ev):Option ((Bool×Unit)×(InhV×Unit)) :=
 ((
 if 0≤y1.task∧y1.task<((y0.levels.length:Nat):Int) then
 if (ady y0.levels y1.task)≠(-1) then
 if 0≤y1.task∧y1.task<((y0.levels.length:Nat):Int) then
 some (decide ((ady y0.levels y1.task)<y1.level),(y0.finished,y0.waits,()),())
 else none
 else
 some (false,(y0.finished,y0.waits,()),())
 else none
 ):Option (Bool×(List Bool×(Int→Option WaitV)×Unit)×Unit)).bind fun z =>
 if 0≤y1.task∧y1.task<((y0.levels.length:Nat):Int) then
 some ((z.1,()),((⟨y0.levels.set y1.task.toNat y1.level,z.2.1.1,z.2.1.2.1⟩:InhV),()))
 else none
noncomputable def aDI (y0:InhV) (y1:Ev):Option ((Bool×Unit)×(InhV×Unit)) :=
 if y1.kind=6 then
 some ((true,()),(({ y0 with waits:=ay2 y0.waits y1.task (⟨y1.other,y1.worker,false,0⟩:WaitV) }:InhV),()))
 else
 if y1.kind=7 then
 if (y0.waits y1.task).isSome=true then
 if (!(((y0.waits y1.task).getD (⟨0,0,false,0⟩:WaitV)).settled))=true then
 if (((y0.waits y1.task).getD (⟨0,0,false,0⟩:WaitV)).worker)=y1.worker then
 if y1.level=y1.level then
 some ((true,()),(({ y0 with waits:=ay2 y0.waits y1.task ({ (y0.waits y1.task).getD (⟨0,0,false,0⟩:WaitV) with settled:=true,level:=y1.level }:WaitV) }:InhV),()))
 else none
 else
 some ((true,()),(y0,()))
 else
 some ((true,()),(y0,()))
 else
 some ((true,()),(y0,()))
 else
 if y1.kind=9 then
 some ((true,()),(({ y0 with waits:=aAP y0.waits y1.task }:InhV),()))
 else
 if y1.kind=10 then
 if 0≤y1.task∧y1.task<((y0.finished.length:Nat):Int) then
 some ((true,()),(({ y0 with finished:=y0.finished.set y1.task.toNat true }:InhV),()))
 else none
 else
 some ((true,()),(y0,()))
noncomputable def aDJ (y0:InhV) (y1:Ev):Option ((Bool×Unit)×(InhV×Unit)) :=
 if y1.kind=1 then
 if y1.kind=1 then
 if 0≤y1.task∧y1.task<((y0.levels.length:Nat):Int) then
 some ((true,()),(({ y0 with levels:=y0.levels.set y1.task.toNat y1.level }:InhV),()))
 else none
 else
 aDI y0 y1
 else
 if y1.kind=3 then
 if 0≤y1.task∧y1.task<((y0.levels.length:Nat):Int) then
 some ((true,()),(({ y0 with levels:=y0.levels.set y1.task.toNat y1.level }:InhV),()))
 else none
 else
 aDI y0 y1
noncomputable def adF (y0:InhV) (y1:Ev):Option ((Bool×Unit)×(InhV×Unit)) :=
 if y1.task<0 then
 some ((true,()),(y0,()))
 else
 if ((y0.levels.length:Nat):Int)≤y1.task then
 some ((true,()),(y0,()))
 else
 if y1.kind=11 then
 if y1.kind=11 then
 aDH y0 y1
 else
 aDJ y0 y1
 else
 if y1.kind=12 then
 aDH y0 y1
 else
 aDJ y0 y1
noncomputable abbrev afc:Con SR1:=⟨41,[.ref 66,.val 2],[.sh .b],fun x =>adF x.1 x.2.1⟩
theorem ahb:CO Tryz.prog afc:=aam aah Tryz.func41 [] trivial [(9,.cut [.rg 6 .b,.cx 0 [.inr (.sl 7),.inl (.row 64),.inl (.mp 65 true)]] [6,7])]
abbrev wAt (m:Int→Option WaitV) (t:Int):WaitV:=(m t).getD (⟨0,0,false,0⟩:WaitV)
noncomputable def aG1 (s:InhV) (t:Int) (self:Int×Int×List Bool×List Int×InhV×Unit→Option (Int×Int×List Bool×List Int×InhV×Unit)) (x:Int×Int×List Bool×List Int×InhV×Unit):Option (Int×Int×List Bool×List Int×InhV×Unit) :=
 if x.2.1<((s.levels.length:Nat):Int) then
 if x.1<0 then
 some (x.1,x.2.1,x.2.2.1,x.2.2.2.1,x.2.2.2.2.1,())
 else
 if ((x.2.2.2.1.length:Nat):Int)≤x.1 then
 some (x.1,x.2.1,x.2.2.1,x.2.2.2.1,x.2.2.2.2.1,())
 else
 if 0≤x.1∧x.1<((x.2.2.1.length:Nat):Int) then
 if (!(anD x.2.2.1 x.1))=true then
 if 0≤x.1∧x.1<((x.2.2.2.1.length:Nat):Int) then
 if 0≤x.1∧x.1<((x.2.2.1.length:Nat):Int) then
 if (!((wAt x.2.2.2.2.1.waits x.1).settled))=true then
 some (x.1,x.2.1,x.2.2.1.set x.1.toNat true,x.2.2.2.1.set x.1.toNat ((wAt s.waits t).level),x.2.2.2.2.1,())
 else
 self ((wAt x.2.2.2.2.1.waits x.1).child,wi (x.2.1+1),x.2.2.1.set x.1.toNat true,x.2.2.2.1.set x.1.toNat ((wAt s.waits t).level),x.2.2.2.2.1,())
 else none
 else none
 else
 if 0≤x.1∧x.1<((x.2.2.2.1.length:Nat):Int) then
 if (ady x.2.2.2.1 x.1)<((wAt s.waits t).level) then
 if 0≤x.1∧x.1<((x.2.2.2.1.length:Nat):Int) then
 if 0≤x.1∧x.1<((x.2.2.1.length:Nat):Int) then
 if (!((wAt x.2.2.2.2.1.waits x.1).settled))=true then
 some (x.1,x.2.1,x.2.2.1.set x.1.toNat true,x.2.2.2.1.set x.1.toNat ((wAt s.waits t).level),x.2.2.2.2.1,())
 else
 self ((wAt x.2.2.2.2.1.waits x.1).child,wi (x.2.1+1),x.2.2.1.set x.1.toNat true,x.2.2.2.1.set x.1.toNat ((wAt s.waits t).level),x.2.2.2.2.1,())
 else none
 else none
 else
 if (!((wAt x.2.2.2.2.1.waits x.1).settled))=true then
 some (x.1,x.2.1,x.2.2.1,x.2.2.2.1,x.2.2.2.2.1,())
 else
 self ((wAt x.2.2.2.2.1.waits x.1).child,wi (x.2.1+1),x.2.2.1,x.2.2.2.1,x.2.2.2.2.1,())
 else none
 else none
 else
 some (x.1,x.2.1,x.2.2.1,x.2.2.2.1,x.2.2.2.2.1,())
noncomputable def aE0 (s:InhV) (self:Int×List Bool×List Int×InhV×Unit→Option (Int×List Bool×List Int×InhV×Unit)) (x:Int×List Bool×List Int×InhV×Unit):Option (Int×List Bool×List Int×InhV×Unit) :=
 if x.1<((s.levels.length:Nat):Int) then
 if (!((wAt x.2.2.2.1.waits x.1).settled))=true then
 self (wi (x.1+1),x.2.1,x.2.2.1,x.2.2.2.1,())
 else
 (lpF (aG1 x.2.2.2.1 x.1) 18446744073709551616 ((wAt x.2.2.2.1.waits x.1).child,0,x.2.1,x.2.2.1,x.2.2.2.1,())).bind fun z9 =>
 self (wi (x.1+1),z9.2.2.1,z9.2.2.2.1,z9.2.2.2.2.1,())
 else
 some (x.1,x.2.1,x.2.2.1,x.2.2.2.1,())
noncomputable def aE3 (l:List Int) (self:Int×List Int×Unit→Option (Int×List Int×Unit)) (x:Int×List Int×Unit):Option (Int×List Int×Unit) :=
 if x.1<((l.length:Nat):Int) then
 if 0≤x.1∧x.1<((x.2.1.length:Nat):Int) then
 self (wi (x.1+1),x.2.1.set x.1.toNat (-1),())
 else none
 else
 some (x.1,x.2.1,())
noncomputable def aeM (z1:List Int×List Bool×InhV×Unit):Option ((List Int×Unit)×(InhV×Unit)) :=
 (lpF (aE3 z1.1) 18446744073709551616 (0,z1.1,())).bind fun z3 =>
 (lpF (aE0 z1.2.2.1) 18446744073709551616 (0,z1.2.1,z3.2.1,z1.2.2.1,())).bind fun z6 =>
 some ((z6.2.2.1,()),(z6.2.2.2.1,()))
noncomputable def adw (y0:InhV):Option (List Int×List Bool×InhV×Unit) :=
 if ((y0.levels.length:Nat):Int)=((y0.levels.length:Nat):Int) then
 if 0≤((y0.levels.length:Nat):Int)∧((y0.levels.length:Nat):Int)≤1099511627776 then
 if ((y0.levels.length:Nat):Int)=((y0.levels.length:Nat):Int) then
 if 0≤((y0.levels.length:Nat):Int)∧((y0.levels.length:Nat):Int)≤1099511627776 then
 some (List.replicate (((y0.levels.length:Nat):Int):Int).toNat (0:Int),List.replicate (((y0.levels.length:Nat):Int):Int).toNat false,y0,())
 else none
 else none
 else none
 else none
noncomputable def aeO (y0:InhV):Option ((List Int×Unit)×(InhV×Unit)) :=
 (agr (adw y0) (adw y0)).bind aeM
noncomputable abbrev afT:Con SR1:=⟨67,[.ref 66],[.sh (.row 1)],fun x =>aeO x.1⟩
theorem ajn:CO Tryz.prog afT:=aam aah Tryz.func67 [] trivial [(2,.cut [.rg 3 (.row 1),.rg 4 (.row 64),.ob 0 66] []),(3,.loop [.rg 24 sI_,.rg 3 (.row 1)] 18446744073709551616 0),(8,.loop [.rg 36 sI_,.rg 4 (.row 64),.rg 3 (.row 1),.ob 0 66] 18446744073709551616 2),(14,.loop [.rg 8 sI_,.rg 55 sI_,.rg 4 (.row 64),.rg 3 (.row 1),.ob 0 66] 18446744073709551616 4)]
noncomputable def abO (y0:InhV):Option ((List Int×Unit)×(InhV×Unit)):=(adw y0).bind aeM
noncomputable abbrev aeN:Con SR1:=⟨67,[.ref 66],[.sh (.row 1)],fun x =>abO x.1⟩
theorem akK (y0:InhV):aeO y0=abO y0:=by
 unfold aeO abO
 rw [ajG]
theorem agP:CO Tryz.prog aeN:=aw2 ajn fun x out hx =>(show afT.spec x=some out from (akK x.1).trans hx)
noncomputable def aE2 (f:List Int) (self:Int×InhV×Unit→Option ((Int×InhV×Unit)⊕((Bool×Unit)×(InhV×Unit)))) (x:Int×InhV×Unit):Option ((Int×InhV×Unit)⊕((Bool×Unit)×(InhV×Unit))) :=
 if x.1<((f.length:Nat):Int) then
 if 0≤x.1∧x.1<((f.length:Nat):Int) then
 if 0≤x.1∧x.1<((x.2.1.finished.length:Nat):Int) then
 if (!(anD x.2.1.finished x.1))=true then
 if 0≤x.1∧x.1<((x.2.1.levels.length:Nat):Int) then
 if (ady x.2.1.levels x.1)<(ady f x.1) then
 Option.map Sum.inr (
 some ((false,()),(x.2.1,()))
 )
 else
 self (wi (x.1+1),x.2.1,())
 else none
 else
 self (wi (x.1+1),x.2.1,())
 else none
 else none
 else
 some (Sum.inl (x.1,x.2.1,()))
noncomputable def aeD (y0:InhV):Option ((Bool×Unit)×(InhV×Unit)) :=
 (abO y0).bind fun r1 =>
 (lpF (aE2 r1.1.1) 18446744073709551616 (0,r1.2.1,())).bind fun z3 =>match z3 with
 | .inr o5 =>some o5
 | .inl z3 =>
 some ((true,()),(z3.2.1,()))
noncomputable abbrev ahR:Con SR1:=⟨42,[.ref 66],[.sh .b],fun x =>aeD x.1⟩
theorem alH:CO Tryz.prog ahR:=aam aah Tryz.func42 [aeN] ⟨agP,trivial⟩ [(2,.loopR [.rg 8 sI_,.ob 0 66] 18446744073709551616 0)]
noncomputable def amb (y0:Cfg) (y1:List Ev):Option ((InhV×Unit)×(Unit)) :=
 (aeu y0).bind fun r1 =>
 (lpF (σ:=Int×InhV×Unit) (β:=Int×InhV×Unit) (fun self4 x2 =>
 if x2.1<((y1.length:Nat):Int) then
 if 0≤x2.1∧x2.1<((y1.length:Nat):Int) then
 (adF x2.2.1 (at4 y1 x2.1)).bind fun r5 =>
 self4 (wi (x2.1+1),r5.2.1,())
 else none
 else
 some (x2.1,x2.2.1,())
 ) 18446744073709551616 (0,r1.1.1,())).bind fun z3 =>
 some ((z3.2.1,()),())
noncomputable abbrev ajo:Con SR1:=⟨66,[.val 13,.sh (.ro 2)],[.sh (.own 66)],fun x =>amb x.1 x.2.1⟩
theorem alR:CO Tryz.prog ajo:=aam aah Tryz.func66 [agc,afc] ⟨ah9,ahb,trivial⟩ [(3,.loop [.rg 12 sI_,.rg 5 (.own 66)] 18446744073709551616 0)]
noncomputable def aE4 (y1:List Ev) (self:Int×InhV×Unit→Option ((Int×InhV×Unit)⊕((Int×Int×Unit)×(Unit)))) (x:Int×InhV×Unit):Option ((Int×InhV×Unit)⊕((Int×Int×Unit)×(Unit))) :=
 if x.1<((y1.length:Nat):Int) then
 if 0≤x.1∧x.1<((y1.length:Nat):Int) then
 (adF x.2.1 (at4 y1 x.1)).bind fun r6 =>
 if (!r6.1.1)=true then
 Option.map Sum.inr (
 some ((x.1,6,()),())
 )
 else
 (aeD r6.2.1).bind fun r7 =>
 if (!r7.1.1)=true then
 Option.map Sum.inr (
 some ((x.1,6,()),())
 )
 else
 self (wi (x.1+1),r7.2.1,())
 else none
 else
 some (Sum.inl (x.1,x.2.1,()))
noncomputable def afl (y0:Cfg) (y1:List Ev):Option ((Int×Int×Unit)×(Unit)) :=
 (ajB y0).bind fun r1 =>
 if r1.1.1≠0 then
 some ((0,r1.1.1,()),())
 else
 (aeu y0).bind fun r2 =>
 (lpF (aE4 y1) 18446744073709551616 (0,r2.1.1,())).bind fun z4 =>match z4 with
 | .inr o8 =>some o8
 | .inl z4 =>
 some ((((y1.length:Nat):Int),0,()),())
noncomputable abbrev ad7:Con SR1:=⟨16,[.val 13,.sh (.ro 2)],[.sh sI_,.sh sI_],fun x =>afl x.1 x.2.1⟩
theorem aev:CO Tryz.prog ad7:=aam aah Tryz.func16 [ai0,agc,afc,ahR] ⟨ajA,ah9,ahb,alH,trivial⟩ [(6,.loopR [.rg 19 sI_,.rg 7 (.own 66)] 18446744073709551616 0)]
noncomputable def ann (y0:Cfg) (y1:List Ev):Option ((List Int×Unit)×(Unit)) :=
 (ajB y0).bind fun r1 =>
 if r1.1.1≠0 then
 some (([],()),())
 else
 (amb y0 y1).bind fun r2 =>
 (abO r2.1.1).bind fun r3 =>
 some ((r3.1.1,()),())
noncomputable abbrev akM:Con SR1:=⟨36,[.val 13,.sh (.ro 2)],[.sh (.row 1)],fun x =>ann x.1 x.2.1⟩
theorem apw:CO Tryz.prog akM:=aam aah Tryz.func36 [ai0,ajo,aeN] ⟨ajA,alR,agP,trivial⟩
noncomputable def anm (y0:Cfg) (y1:List Ev):Option ((List Int×Unit)×(Unit)) :=
 (ajB y0).bind fun r1 =>
 if r1.1.1≠0 then
 some (([],()),())
 else
 (amb y0 y1).bind fun r2 =>
 some ((r2.1.1.levels,()),())
noncomputable abbrev akL:Con SR1:=⟨37,[.val 13,.sh (.ro 2)],[.sh (.row 1)],fun x =>anm x.1 x.2.1⟩
theorem apv:CO Tryz.prog akL:=aam aah Tryz.func37 [ai0,ajo] ⟨ajA,alR,trivial⟩
noncomputable def ac7  : Option ((Cfg×Unit)×(Unit)) :=
 (agY ([])).bind fun r1 =>
 some ((({ r1.1.1 with levels:=3,tasks:=4 }:Cfg),()),())
noncomputable abbrev ag3:Con SR1:=⟨34,[],[.val 13],fun x =>ac7 ⟩
theorem aka:CO Tryz.prog ag3:=aam aah Tryz.func34 [aiU] ⟨aiT,trivial⟩
noncomputable def afq (y0:List Int) (y1:List Int):Option ((Bool×Unit)×(Unit)) :=
 if ((y0.length:Nat):Int)≠((y1.length:Nat):Int) then
 some ((false,()),())
 else
 (lpF (σ:=Int×Unit) (β:=(Int×Unit)⊕((Bool×Unit)×(Unit))) (fun self3 x1 =>
 if x1.1<((y0.length:Nat):Int) then
 if 0≤x1.1∧x1.1<((y0.length:Nat):Int) then
 if 0≤x1.1∧x1.1<((y1.length:Nat):Int) then
 if (ady y0 x1.1)≠(ady y1 x1.1) then
 Option.map Sum.inr (
 some ((false,()),())
 )
 else
 self3 (wi (x1.1+1),())
 else none
 else none
 else
 some (Sum.inl (x1.1,()))
 ) 18446744073709551616 (0,())).bind fun z2 =>match z2 with
 | .inr o4 =>some o4
 | .inl z2 =>
 some ((true,()),())
noncomputable abbrev ag0:Con SR1:=⟨35,[.sh (.ro 1),.sh (.ro 1)],[.sh .b],fun x =>afq x.1 x.2.1⟩
theorem aj7:CO Tryz.prog ag0:=aam aah Tryz.func35 [] trivial [(4,.loopR [.rg 5 sI_] 18446744073709551616 0)]
abbrev axb:List Ev:=[(⟨1,1,0,0,2⟩:Ev),(⟨3,0,1,0,0⟩:Ev),(⟨6,0,0,1,0⟩:Ev),(⟨11,0,1,0,2⟩:Ev),(⟨7,0,0,0,2⟩:Ev)]
def aKq {α:Type} (e:Ev) (o:Option α):Option α:=if e.kind=e.kind then if e.worker=e.worker then if e.task=e.task then if e.other=e.other then if e.level=e.level then o else none else none else none else none else none
noncomputable def aLA:Option (Int×Int×Unit) :=
 (ac7).bind fun u =>
 aKq (at4 axb 4) ( aKq (at4 axb 2) ( aKq (at4 axb 1) ( aKq (at4 axb 0) ( (afl u.1.1 ([at4 axb 0,at4 axb 1,at4 axb 2,at4 axb 4])).bind fun v =>some (v.1.1,v.1.2.1,())))))
noncomputable def aeo  : Option ((Bool×Unit)×(Unit)) :=
 (ac7).bind fun r1 =>
 (afl r1.1.1 axb).bind fun r2 =>
 ((
 if 0≤(0:Int)∧(0:Int)<((axb.length:Nat):Int) then
 if 0≤(1:Int)∧(1:Int)<((axb.length:Nat):Int) then
 if 0≤(2:Int)∧(2:Int)<((axb.length:Nat):Int) then
 if 0≤(4:Int)∧(4:Int)<((axb.length:Nat):Int) then
 agr aLA aLA
 else none
 else none
 else none
 else none
 ):Option (Int×Int×Unit)).bind fun z7 =>
 if r2.1.1=5 then
 if r2.1.2.1=0 then
 if z7.1=3 then
 if z7.2.1=6 then
 (ac7).bind fun r8 =>
 (ann r8.1.1 axb).bind fun r9 =>
 (afq r9.1.1 ([(-1),2,(-1),(-1)])).bind fun r10 =>
 if r10.1.1=true then
 (ac7).bind fun r11 =>
 (anm r11.1.1 axb).bind fun r12 =>
 (afq r12.1.1 ([2,2,(-1),(-1)])).bind fun r13 =>
 some ((r13.1.1,()),())
 else
 some ((false,()),())
 else
 some ((false,()),())
 else
 some ((false,()),())
 else
 some ((false,()),())
 else
 some ((false,()),())
noncomputable abbrev aft:Con SR1:=⟨12,[],[.sh .b],fun x =>aeo ⟩
theorem aiw:CO Tryz.prog aft:=aam aah Tryz.func12 [ag3,ad7,akM,ag0,akL] ⟨aka,aev,apw,aj7,apv,trivial⟩ [(4,.cut [.rg 4 sI_,.rg 5 sI_] [0,10,11])]
noncomputable abbrev acg:Con SR1:=⟨12,[],[.sh .b],fun _ =>some ((true,()),())⟩
theorem ajX:aeo=some ((true,()),()):=by
 unfold aeo
 simp only [ajG]
 kernel_rfl
theorem acX:CO Tryz.prog acg:=aw2 aiw fun x out hx =>(show aft.spec x=some out from ajX.trans hx)
noncomputable def auR (self3:Int×S30×Unit→Option (Int×S30×Unit)) (x1:Int×S30×Unit):Option (Int×S30×Unit) :=
 if (((x1.2.1.done.length+([false]:List Bool).length:Nat)):Int)<1000000000000 then
 if (((x1.2.1.waits.length+([(⟨false,false,0,0,0⟩:W30)]:List W30).length:Nat)):Int)<1000000000000 then
 self3 (wi (x1.1+1),(⟨x1.2.1.level++([(-1)]),x1.2.1.done++([false]),x1.2.1.waits++([(⟨false,false,0,0,0⟩:W30)])⟩:S30),())
 else none
 else none
noncomputable def ayV (x1:Int×S30×Unit) (o:Option (Int×S30×Unit)):Option (Int×S30×Unit):=if (((x1.2.1.level.length+([(-1)]:List Int).length:Nat)):Int)<1000000000000 then o else none
noncomputable def aKJ (c:Cfg) (self:Int×S30×Unit→Option (Int×S30×Unit)) (x:Int×S30×Unit):Option (Int×S30×Unit):=if x.1<c.tasks then ayV x (auR self x) else some (x.1,x.2.1,())
noncomputable def aen (y0:Cfg):Option ((S30×Unit)×(Unit)) :=
 (lpF (σ:=Int×S30×Unit) (β:=Int×S30×Unit) (fun self3 x1 =>
 if x1.1<y0.tasks then
 agr (agr (ayV x1 (agr (agr (auR self3 x1) (auR self3 x1)) (auR self3 x1))) (agr (agr (ayV x1 (agr (auR self3 x1) (auR self3 x1))) (ayV x1 (auR self3 x1))) (agr (ayV x1 (auR self3 x1)) (ayV x1 (auR self3 x1))))) (agr (agr (agr (ayV x1 (agr (auR self3 x1) (auR self3 x1))) (ayV x1 (auR self3 x1))) (ayV x1 (auR self3 x1))) (agr (agr (ayV x1 (auR self3 x1)) (ayV x1 (auR self3 x1))) (ayV x1 (auR self3 x1))))
 else
 some (x1.1,x1.2.1,())
 ) 18446744073709551616 (0,(⟨[],[],[]⟩:S30),())).bind fun z2 =>
 some ((z2.2.1,()),())
noncomputable abbrev afp:Con SR1:=⟨44,[.val 13],[.sh (.own 68)],fun x =>aen x.1⟩
theorem aiv:CO Tryz.prog afp:=aam aah Tryz.func44 [] trivial [(3,.loop [.rg 4 sI_,.rg 3 (.own 68)] 18446744073709551616 0)]
noncomputable def abw (y0:Cfg):Option ((S30×Unit)×(Unit)) :=
 (lpF (aKJ y0) 18446744073709551616 (0,(⟨[],[],[]⟩:S30),())).bind fun z2 =>
 some ((z2.2.1,()),())
noncomputable abbrev aem:Con SR1:=⟨44,[.val 13],[.sh (.own 68)],fun x =>abw x.1⟩
theorem ajV (y0:Cfg):aen y0=abw y0:=by
 unfold aen abw aKJ
 simp only [ajG]
theorem afP:CO Tryz.prog aem:=aw2 aiv fun x out hx =>(show afp.spec x=some out from (ajV x.1).trans hx)
noncomputable def aC2 (s:S30) (y1:Ev):Option ((Bool×Unit)×(S30×Unit)) :=
 ((
 if 0≤y1.task∧y1.task<((s.level.length:Nat):Int) then
 if (ady s.level y1.task)≠(-1) then
 if 0≤y1.task∧y1.task<((s.level.length:Nat):Int) then
 some (decide ((ady s.level y1.task)<y1.level),s,())
 else none
 else
 some (false,s,())
 else none
 ):Option (Bool×S30×Unit)).bind fun z =>
 if 0≤y1.task∧y1.task<((z.2.1.level.length:Nat):Int) then
 some ((z.1,()),(({ z.2.1 with level:=z.2.1.level.set y1.task.toNat y1.level }:S30),()))
 else none
noncomputable def aC3 (s:S30) (y1:Ev):Option ((Bool×Unit)×(S30×Unit)) :=
 if y1.kind=6 then
 if 0≤y1.task∧y1.task<((s.waits.length:Nat):Int) then
 some ((true,()),(({ s with waits:=s.waits.set y1.task.toNat (⟨true,false,y1.other,y1.worker,0⟩:W30) }:S30),()))
 else none
 else
 if y1.kind=7 then
 if 0≤y1.task∧y1.task<((s.waits.length:Nat):Int) then
 ((
 if (afK s.waits y1.task).open_=true then
 if (!((afK s.waits y1.task).settled))=true then
 some (decide (((afK s.waits y1.task).worker)=y1.worker),())
 else
 some (false,())
 else
 some (false,())
 ):Option (Bool×Unit)).bind fun z =>
 if z.1=true then
 if y1.level=y1.level then
 some ((true,()),(({ s with waits:=(s.waits.set y1.task.toNat ({ afK s.waits y1.task with settled:=true }:W30)).set y1.task.toNat ({ afK (s.waits.set y1.task.toNat ({ afK s.waits y1.task with settled:=true }:W30)) y1.task with level:=y1.level }:W30) }:S30),()))
 else none
 else
 some ((true,()),(s,()))
 else none
 else
 if y1.kind=9 then
 if 0≤y1.task∧y1.task<((s.waits.length:Nat):Int) then
 some ((true,()),(({ s with waits:=s.waits.set y1.task.toNat (⟨false,false,0,0,0⟩:W30) }:S30),()))
 else none
 else
 if y1.kind=10 then
 if 0≤y1.task∧y1.task<((s.done.length:Nat):Int) then
 some ((true,()),(({ s with done:=s.done.set y1.task.toNat true }:S30),()))
 else none
 else
 some ((true,()),(s,()))
noncomputable def aC4 (s:S30) (y1:Ev):Option ((Bool×Unit)×(S30×Unit)) :=
 if y1.kind=11 then
 if y1.kind=11 then
 aC2 s y1
 else
 aC3 s y1
 else
 if y1.kind=12 then
 aC2 s y1
 else
 aC3 s y1
noncomputable def aEI (z:Bool×S30×Unit) (s:S30) (y1:Ev):Option ((Bool×Unit)×(S30×Unit)) :=
 if z.1=true then
 some ((true,()),(s,()))
 else
 if y1.kind=1 then
 if y1.kind=1 then
 if 0≤y1.task∧y1.task<((s.level.length:Nat):Int) then
 some ((true,()),(({ s with level:=s.level.set y1.task.toNat y1.level }:S30),()))
 else none
 else
 aC4 s y1
 else
 if y1.kind=3 then
 if 0≤y1.task∧y1.task<((s.level.length:Nat):Int) then
 some ((true,()),(({ s with level:=s.level.set y1.task.toNat y1.level }:S30),()))
 else none
 else
 aC4 s y1
noncomputable def aby (y0:S30) (y1:Ev):Option ((Bool×Unit)×(S30×Unit)) :=
 ((
 if y1.task<0 then
 some (true,y0,())
 else
 some (decide (((y0.level.length:Nat):Int)≤y1.task),y0,())
 ):Option (Bool×S30×Unit)).bind fun z1 =>
 aEI z1 z1.2.1 y1
noncomputable abbrev ac3:Con SR1:=⟨45,[.ref 68,.val 2],[.sh .b],fun x =>aby x.1 x.2.1⟩
theorem ael:CO Tryz.prog ac3:=aam aah Tryz.func45 [] trivial [(2,.cut [.rg 20 .b,.ob 0 68] [6]),(11,.cut [.rg 6 .b,.ob 0 68] [6]),(18,.cut [.rg 108 .b] [0,6,8,9])]
noncomputable def aGb (s:S30) (t:Int) (self:Int×Int×List Int×List Bool×Unit→Option (Int×Int×List Int×List Bool×Unit)) (x:Int×Int×List Int×List Bool×Unit):Option (Int×Int×List Int×List Bool×Unit) :=
 if x.2.1≤((x.2.2.1.length:Nat):Int) then
 if 0≤x.1 then
 if x.1<((x.2.2.1.length:Nat):Int) then
 if 0≤x.1∧x.1<((x.2.2.2.1.length:Nat):Int) then
 if (!(anD x.2.2.2.1 x.1))=true then
 if 0≤x.1∧x.1<((x.2.2.1.length:Nat):Int) then
 if 0≤x.1∧x.1<((x.2.2.2.1.length:Nat):Int) then
 if 0≤x.1∧x.1<((s.waits.length:Nat):Int) then
 if (!((afK s.waits x.1).settled))=true then
 some (x.1,x.2.1,x.2.2.1.set x.1.toNat ((afK s.waits t).level),x.2.2.2.1.set x.1.toNat true,())
 else
 if 0≤x.1∧x.1<((s.waits.length:Nat):Int) then
 self ((afK s.waits x.1).child,wi (x.2.1+1),x.2.2.1.set x.1.toNat ((afK s.waits t).level),x.2.2.2.1.set x.1.toNat true,())
 else none
 else none
 else none
 else none
 else
 if 0≤x.1∧x.1<((x.2.2.1.length:Nat):Int) then
 if (ady x.2.2.1 x.1)<((afK s.waits t).level) then
 if 0≤x.1∧x.1<((x.2.2.1.length:Nat):Int) then
 if 0≤x.1∧x.1<((x.2.2.2.1.length:Nat):Int) then
 if 0≤x.1∧x.1<((s.waits.length:Nat):Int) then
 if (!((afK s.waits x.1).settled))=true then
 some (x.1,x.2.1,x.2.2.1.set x.1.toNat ((afK s.waits t).level),x.2.2.2.1.set x.1.toNat true,())
 else
 if 0≤x.1∧x.1<((s.waits.length:Nat):Int) then
 self ((afK s.waits x.1).child,wi (x.2.1+1),x.2.2.1.set x.1.toNat ((afK s.waits t).level),x.2.2.2.1.set x.1.toNat true,())
 else none
 else none
 else none
 else none
 else
 if 0≤x.1∧x.1<((s.waits.length:Nat):Int) then
 if (!((afK s.waits x.1).settled))=true then
 some (x.1,x.2.1,x.2.2.1,x.2.2.2.1,())
 else
 if 0≤x.1∧x.1<((s.waits.length:Nat):Int) then
 self ((afK s.waits x.1).child,wi (x.2.1+1),x.2.2.1,x.2.2.2.1,())
 else none
 else none
 else none
 else none
 else
 some (x.1,x.2.1,x.2.2.1,x.2.2.2.1,())
 else
 some (x.1,x.2.1,x.2.2.1,x.2.2.2.1,())
 else
 some (x.1,x.2.1,x.2.2.1,x.2.2.2.1,())
noncomputable def aEF  (self:Int×List Int×List Bool×S30×Unit→Option (Int×List Int×List Bool×S30×Unit)) (x:Int×List Int×List Bool×S30×Unit):Option (Int×List Int×List Bool×S30×Unit) :=
 if x.1<((x.2.1.length:Nat):Int) then
 if 0≤x.1∧x.1<((x.2.2.2.1.waits.length:Nat):Int) then
 if (!((afK x.2.2.2.1.waits x.1).settled))=true then
 self (wi (x.1+1),x.2.1,x.2.2.1,x.2.2.2.1,())
 else
 if 0≤x.1∧x.1<((x.2.2.2.1.waits.length:Nat):Int) then
 if 0≤x.1∧x.1<((x.2.2.2.1.waits.length:Nat):Int) then
 (lpF (aGb x.2.2.2.1 x.1) 18446744073709551616 ((afK x.2.2.2.1.waits x.1).child,0,x.2.1,x.2.2.1,())).bind fun z6 =>
 self (wi (x.1+1),z6.2.2.1,z6.2.2.2.1,x.2.2.2.1,())
 else none
 else none
 else none
 else
 some (x.1,x.2.1,x.2.2.1,x.2.2.2.1,())
noncomputable def aEG (has:List Bool) (self:Int×List Int×Unit→Option (Int×List Int×Unit)) (x:Int×List Int×Unit):Option (Int×List Int×Unit) :=
 if x.1<((x.2.1.length:Nat):Int) then
 if 0≤x.1∧x.1<((has.length:Nat):Int) then
 if (!(anD has x.1))=true then
 if 0≤x.1∧x.1<((x.2.1.length:Nat):Int) then
 self (wi (x.1+1),x.2.1.set x.1.toNat (-1),())
 else none
 else
 self (wi (x.1+1),x.2.1,())
 else none
 else
 some (x.1,x.2.1,())
noncomputable def ac1 (z1:List Int×List Bool×S30×Unit):Option ((List Int×Unit)×(S30×Unit)) :=
 (lpF (aEF) 18446744073709551616 (0,z1.1,z1.2.1,z1.2.2.1,())).bind fun z3 =>
 (lpF (aEG z3.2.2.1) 18446744073709551616 (0,z3.2.1,())).bind fun z9 =>
 some ((z9.2.1,()),(z3.2.2.2.1,()))
noncomputable def abV (y0:S30):Option (List Int×List Bool×S30×Unit) :=
 if ((y0.level.length:Nat):Int)=((y0.level.length:Nat):Int) then
 if 0≤((y0.level.length:Nat):Int)∧((y0.level.length:Nat):Int)≤1099511627776 then
 if ((y0.level.length:Nat):Int)=((y0.level.length:Nat):Int) then
 if 0≤((y0.level.length:Nat):Int)∧((y0.level.length:Nat):Int)≤1099511627776 then
 some (List.replicate (((y0.level.length:Nat):Int):Int).toNat (0:Int),List.replicate (((y0.level.length:Nat):Int):Int).toNat false,y0,())
 else none
 else none
 else none
 else none
noncomputable def ac2 (y0:S30):Option ((List Int×Unit)×(S30×Unit)) :=
 (agr (abV y0) (abV y0)).bind ac1
noncomputable abbrev aeb:Con SR1:=⟨46,[.ref 68],[.sh (.row 1)],fun x =>ac2 x.1⟩
theorem agU:CO Tryz.prog aeb:=aam aah Tryz.func46 [] trivial [(2,.cut [.rg 3 (.row 1),.rg 4 (.row 64),.ob 0 68] []),(3,.loop [.rg 5 sI_,.rg 3 (.row 1),.rg 4 (.row 64),.ob 0 68] 18446744073709551616 0),(8,.loop [.rg 7 sI_,.rg 8 sI_,.rg 3 (.row 1),.rg 4 (.row 64)] 18446744073709551616 2),(15,.loop [.rg 9 sI_,.rg 3 (.row 1)] 18446744073709551616 4)]
noncomputable def abb (y0:S30):Option ((List Int×Unit)×(S30×Unit)):=(abV y0).bind ac1
noncomputable abbrev aeG:Con SR1:=⟨46,[.ref 68],[.sh (.row 1)],fun x =>abb x.1⟩
theorem ahx (y0:S30):ac2 y0=abb y0:=by
 unfold ac2 abb
 rw [ajG]
theorem ahw:CO Tryz.prog aeG:=aw2 agU fun x out hx =>(show aeb.spec x=some out from (ahx x.1).trans hx)
noncomputable def az7 (f:List Int) (i:Int) (self:Int×S30×Unit→Option ((Int×S30×Unit)⊕((Int×S30×Unit)⊕((Int×Int×Unit)×(Unit))))) (x:Int×S30×Unit):Option ((Int×S30×Unit)⊕((Int×S30×Unit)⊕((Int×Int×Unit)×(Unit)))) :=
 if x.1<((f.length:Nat):Int) then
 if 0≤x.1∧x.1<((x.2.1.done.length:Nat):Int) then
 if (!(anD x.2.1.done x.1))=true then
 if 0≤x.1∧x.1<((f.length:Nat):Int) then
 if 0≤x.1∧x.1<((x.2.1.level.length:Nat):Int) then
 if (ady x.2.1.level x.1)<(ady f x.1) then
 Option.map Sum.inr (
 Option.map Sum.inr (
 some ((i,6,()),())
 )
 )
 else
 self (wi (x.1+1),x.2.1,())
 else none
 else none
 else
 self (wi (x.1+1),x.2.1,())
 else none
 else
 some (Sum.inl (x.1,x.2.1,()))
noncomputable def aEH (y1:List Ev) (self:Int×S30×Unit→Option ((Int×S30×Unit)⊕((Int×Int×Unit)×(Unit)))) (x:Int×S30×Unit):Option ((Int×S30×Unit)⊕((Int×Int×Unit)×(Unit))) :=
 if x.1<((y1.length:Nat):Int) then
 if 0≤x.1∧x.1<((y1.length:Nat):Int) then
 (aby x.2.1 (at4 y1 x.1)).bind fun r6 =>
 if (!r6.1.1)=true then
 Option.map Sum.inr (
 some ((x.1,6,()),())
 )
 else
 (abb r6.2.1).bind fun r7 =>
 (lpF (az7 r7.1.1 x.1) 18446744073709551616 (0,r7.2.1,())).bind fun z9 =>match z9 with
 | .inr o11 =>some o11
 | .inl z9 =>
 self (wi (x.1+1),z9.2.1,())
 else none
 else
 some (Sum.inl (x.1,x.2.1,()))
noncomputable def adJ (y0:Cfg) (y1:List Ev):Option ((Int×Int×Unit)×(Unit)) :=
 (amP y0).bind fun r1 =>
 if r1.1.1≠0 then
 some ((0,r1.1.1,()),())
 else
 (abw y0).bind fun r2 =>
 (lpF (aEH y1) 18446744073709551616 (0,r2.1.1,())).bind fun z4 =>match z4 with
 | .inr o12 =>some o12
 | .inl z4 =>
 some ((((y1.length:Nat):Int),0,()),())
noncomputable abbrev acd:Con SR1:=⟨17,[.val 13,.sh (.ro 2)],[.sh sI_,.sh sI_],fun x =>adJ x.1 x.2.1⟩
theorem acU:CO Tryz.prog acd:=aam aah Tryz.func17 [an0,aem,ac3,aeG] ⟨aqH,afP,ael,ahw,trivial⟩ [(6,.loopR [.rg 8 sI_,.rg 7 (.own 68)] 18446744073709551616 0),(12,.loopR [.rg 10 sI_,.rg 7 (.own 68)] 18446744073709551616 2)]
noncomputable def az6 (y1:List Ev) (self:Int×S30×Unit→Option (Int×S30×Unit)) (x:Int×S30×Unit):Option (Int×S30×Unit) :=
 if x.1<((y1.length:Nat):Int) then
 if 0≤x.1∧x.1<((y1.length:Nat):Int) then
 (aby x.2.1 (at4 y1 x.1)).bind fun r6 =>
 self (wi (x.1+1),r6.2.1,())
 else none
 else
 some (x.1,x.2.1,())
noncomputable def ads (y0:Cfg) (y1:List Ev):Option ((List Int×Unit)×(Unit)) :=
 (amP y0).bind fun r1 =>
 if r1.1.1≠0 then
 some (([],()),())
 else
 (abw y0).bind fun r2 =>
 (lpF (az6 y1) 18446744073709551616 (0,r2.1.1,())).bind fun z4 =>
 some ((z4.2.1.level,()),())
noncomputable abbrev abY:Con SR1:=⟨18,[.val 13,.sh (.ro 2)],[.sh (.row 1)],fun x =>ads x.1 x.2.1⟩
theorem acw:CO Tryz.prog abY:=aam aah Tryz.func18 [an0,aem,ac3] ⟨aqH,afP,ael,trivial⟩ [(5,.loop [.rg 6 sI_,.rg 5 (.own 68)] 18446744073709551616 0)]
noncomputable def ae6 (y0:Int) (y1:Int) (y2:Int) (y3:Int):Option ((Int×Unit)×(Unit)) :=
 if y1<0 then
 some (((-1),()),())
 else
 if y2≤y1 then
 some (((-1),()),())
 else
 some ((wi (y0+(wi (y1*y3))),()),())
noncomputable abbrev ags:Con SR1:=⟨75,[.sh sI_,.sh sI_,.sh sI_,.sh sI_],[.sh sI_],fun x =>ae6 x.1 x.2.1 x.2.2.1 x.2.2.2.1⟩
theorem ajW:CO Tryz.prog ags:=aam aah Tryz.func75 [] trivial
noncomputable def afr (y0:Cfg) (y1:Int) (y2:Int):Option ((Int×Unit)×(Unit)) :=
 (acu y0).bind fun r1 =>
 if y0.tasks=y0.tasks then
 if y0.deque=y0.deque then
 if y0.levels=y0.levels then
 if y0.workers=y0.workers then
 (ae6 (wi (r1.1.1+(wi ((wi (y0.workers*y0.levels))*(wi (2+y0.deque)))))) y1 y0.tasks 5).bind fun r2 =>
 if r2.1.1<0 then
 some (((-1),()),())
 else
 some ((wi (r2.1.1+y2),()),())
 else none
 else none
 else none
 else none
noncomputable abbrev ag1:Con SR1:=⟨48,[.val 13,.sh sI_,.sh sI_],[.sh sI_],fun x =>afr x.1 x.2.1 x.2.2.1⟩
theorem aj8:CO Tryz.prog ag1:=aam aah Tryz.func48 [ad9,ags] ⟨afs,ajW,trivial⟩
noncomputable def adK (y0:Cfg) (y1:Int):Option ((Int×Unit)×(Unit)) :=
 (afr y0 y1 1).bind fun r1 =>
 some ((r1.1.1,()),())
noncomputable abbrev ace:Con SR1:=⟨20,[.val 13,.sh sI_],[.sh sI_],fun x =>adK x.1 x.2.1⟩
theorem acV:CO Tryz.prog ace:=aam aah Tryz.func20 [ag1] ⟨aj8,trivial⟩
abbrev arR:=Int×List Int×Int×Int×Int×Int×Unit
noncomputable def ala {σ:Type} (c0:Int) (env:EnvP) (eng:arR) (self:EnvP→arR→Option σ):Option σ :=
 (ab5 env.m).bind fun r22 =>
 if c0<r22.1.1 then
 (agW r22.2.1).bind fun r23 =>
 (lpF (σ:=EnvP×(Int×List Int×Int×Int×Int×Int×Unit)×Unit) (β:=EnvP×(Int×List Int×Int×Int×Int×Int×Unit)×Unit) (fun self26 x24 =>
 if ((x24.2.1.2.1.length:Nat):Int)<((x24.1.evs.length:Nat):Int) then
 if (((x24.2.1.2.1.length+([x24.2.1.1]:List Int).length:Nat)):Int)<1000000000000 then
 self26 (x24.1,(x24.2.1.1,x24.2.1.2.1++([x24.2.1.1]),x24.2.1.2.2.1,x24.2.1.2.2.2.1,x24.2.1.2.2.2.2.1,x24.2.1.2.2.2.2.2.1,()),())
 else none
 else
 some (x24.1,x24.2.1,())
 ) 18446744073709551616 (({ env with m:=r23.2.1 }:EnvP),(eng.1,eng.2.1,r23.1.1.kind,r23.1.1.cell,r23.1.1.old,r23.1.1.new,()),())).bind fun z25 =>
 self z25.1 (wi (z25.2.1.1+1),z25.2.1.2.1,z25.2.1.2.2.1,z25.2.1.2.2.2.1,z25.2.1.2.2.2.2.1,z25.2.1.2.2.2.2.2.1,())
 else
 (lpF (σ:=EnvP×(Int×List Int×Int×Int×Int×Int×Unit)×Unit) (β:=EnvP×(Int×List Int×Int×Int×Int×Int×Unit)×Unit) (fun self29 x27 =>
 if ((x27.2.1.2.1.length:Nat):Int)<((x27.1.evs.length:Nat):Int) then
 if (((x27.2.1.2.1.length+([x27.2.1.1]:List Int).length:Nat)):Int)<1000000000000 then
 self29 (x27.1,(x27.2.1.1,x27.2.1.2.1++([x27.2.1.1]),x27.2.1.2.2.1,x27.2.1.2.2.2.1,x27.2.1.2.2.2.2.1,x27.2.1.2.2.2.2.2.1,()),())
 else none
 else
 some (x27.1,x27.2.1,())
 ) 18446744073709551616 (({ env with m:=r22.2.1 }:EnvP),(eng.1,eng.2.1,0,0,0,0,()),())).bind fun z28 =>
 self z28.1 (wi (z28.2.1.1+1),z28.2.1.2.1,z28.2.1.2.2.1,z28.2.1.2.2.2.1,z28.2.1.2.2.2.2.1,z28.2.1.2.2.2.2.2.1,())
abbrev avZ:=Int×EnvP×(WorkerV MV)×(ClientV MV)×(Int×List Int×Int×Int×Int×Int×Unit)×Unit
noncomputable def aqj (l:List EntV) (x12:avZ) (r15:(Int×Unit)×(MemV×Unit)) :=
 ((
 if ((asy l x12.1).kind)=0 then
 (adN (asy l x12.1) 2).bind fun r16 =>
 if r16.1.1=((1:Nat):Int) then
 (aau x12.2.2.2.1 ({ x12.2.1 with m:=r15.2.1 }:EnvP)).bind fun r17 =>
 some (r17.2.2.1,x12.2.2.1,r17.2.1,x12.2.2.2.2.1,())
 else
 if r16.1.1=((0:Nat):Int) then
 (aaj x12.2.2.1 ({ x12.2.1 with m:=r15.2.1 }:EnvP)).bind fun r18 =>
 some (r18.2.2.1,r18.2.1,x12.2.2.2.1,x12.2.2.2.2.1,())
 else
 none
 else
 if ((asy l x12.1).kind)=1 then
 (aeV x12.2.1.k).bind fun r19 =>
 some (({ x12.2.1 with m:=r15.2.1,k:=r19.2.1 }:EnvP),x12.2.2.1,x12.2.2.2.1,x12.2.2.2.2.1,())
 else
 if ((asy l x12.1).kind)=2 then
 (afH x12.2.1.k ((asy l x12.1).value)).bind fun r20 =>
 some (({ x12.2.1 with m:=r15.2.1,k:=r20.2.1 }:EnvP),x12.2.2.1,x12.2.2.2.1,x12.2.2.2.2.1,())
 else
 some (({ x12.2.1 with m:=r15.2.1 }:EnvP),x12.2.2.1,x12.2.2.2.1,x12.2.2.2.2.1,())
 ):Option (EnvP×(WorkerV MV)×(ClientV MV)×(Int×List Int×Int×Int×Int×Int×Unit)×Unit))
noncomputable def aqn (l:List EntV) (self14:avZ→Option (avZ)) (x12:avZ):Option (avZ) :=
 if x12.1<((l.length:Nat):Int) then
 if 0≤x12.1∧x12.1<((l.length:Nat):Int) then
 (ab5 x12.2.1.m).bind fun r15 =>
 (aqj l x12 r15).bind fun z21 =>
 ala r15.1.1 z21.1 z21.2.2.2.1 (fun e g =>self14 (wi (x12.1+1),e,z21.2.1,z21.2.2.1,g,()))
 else none
 else
 some (x12.1,x12.2.1,x12.2.2.1,x12.2.2.2.1,x12.2.2.2.2.1,())
abbrev avY:=Int×EnvP×(WorkerV MV)×(WorkerV MV)×(ClientV MV)×(Int×List Int×Int×Int×Int×Int×Unit)×Unit
noncomputable def aqi (l:List EntV) (x13:avY) (r16:(Int×Unit)×(MemV×Unit)) :=
 ((
 if ((asy l x13.1).kind)=0 then
 (adN (asy l x13.1) 3).bind fun r17 =>
 if r17.1.1=((2:Nat):Int) then
 (aau x13.2.2.2.2.1 ({ x13.2.1 with m:=r16.2.1 }:EnvP)).bind fun r18 =>
 some (r18.2.2.1,x13.2.2.1,x13.2.2.2.1,r18.2.1,x13.2.2.2.2.2.1,())
 else
 if r17.1.1=((1:Nat):Int) then
 (aaj x13.2.2.2.1 ({ x13.2.1 with m:=r16.2.1 }:EnvP)).bind fun r19 =>
 some (r19.2.2.1,x13.2.2.1,r19.2.1,x13.2.2.2.2.1,x13.2.2.2.2.2.1,())
 else
 if r17.1.1=((0:Nat):Int) then
 (aaj x13.2.2.1 ({ x13.2.1 with m:=r16.2.1 }:EnvP)).bind fun r20 =>
 some (r20.2.2.1,r20.2.1,x13.2.2.2.1,x13.2.2.2.2.1,x13.2.2.2.2.2.1,())
 else
 none
 else
 if ((asy l x13.1).kind)=1 then
 (aeV x13.2.1.k).bind fun r21 =>
 some (({ x13.2.1 with m:=r16.2.1,k:=r21.2.1 }:EnvP),x13.2.2.1,x13.2.2.2.1,x13.2.2.2.2.1,x13.2.2.2.2.2.1,())
 else
 if ((asy l x13.1).kind)=2 then
 (afH x13.2.1.k ((asy l x13.1).value)).bind fun r22 =>
 some (({ x13.2.1 with m:=r16.2.1,k:=r22.2.1 }:EnvP),x13.2.2.1,x13.2.2.2.1,x13.2.2.2.2.1,x13.2.2.2.2.2.1,())
 else
 some (({ x13.2.1 with m:=r16.2.1 }:EnvP),x13.2.2.1,x13.2.2.2.1,x13.2.2.2.2.1,x13.2.2.2.2.2.1,())
 ):Option (EnvP×(WorkerV MV)×(WorkerV MV)×(ClientV MV)×(Int×List Int×Int×Int×Int×Int×Unit)×Unit))
noncomputable def aqm (l:List EntV) (self15:avY→Option (avY)) (x13:avY):Option (avY) :=
 if x13.1<((l.length:Nat):Int) then
 if 0≤x13.1∧x13.1<((l.length:Nat):Int) then
 (ab5 x13.2.1.m).bind fun r16 =>
 (aqi l x13 r16).bind fun z23 =>
 ala r16.1.1 z23.1 z23.2.2.2.2.1 (fun e g =>self15 (wi (x13.1+1),e,z23.2.1,z23.2.2.1,z23.2.2.2.1,g,()))
 else none
 else
 some (x13.1,x13.2.1,x13.2.2.1,x13.2.2.2.1,x13.2.2.2.2.1,x13.2.2.2.2.2.1,())
abbrev avX:=Int×EnvP×(WorkerV MV)×(WorkerV MV)×(WorkerV MV)×(ClientV MV)×(Int×List Int×Int×Int×Int×Int×Unit)×Unit
noncomputable def aqh (l:List EntV) (x14:avX) (r17:(Int×Unit)×(MemV×Unit)) :=
 ((
 if ((asy l x14.1).kind)=0 then
 (adN (asy l x14.1) 4).bind fun r18 =>
 if r18.1.1=((3:Nat):Int) then
 (aau x14.2.2.2.2.2.1 ({ x14.2.1 with m:=r17.2.1 }:EnvP)).bind fun r19 =>
 some (r19.2.2.1,x14.2.2.1,x14.2.2.2.1,x14.2.2.2.2.1,r19.2.1,x14.2.2.2.2.2.2.1,())
 else
 if r18.1.1=((2:Nat):Int) then
 (aaj x14.2.2.2.2.1 ({ x14.2.1 with m:=r17.2.1 }:EnvP)).bind fun r20 =>
 some (r20.2.2.1,x14.2.2.1,x14.2.2.2.1,r20.2.1,x14.2.2.2.2.2.1,x14.2.2.2.2.2.2.1,())
 else
 if r18.1.1=((1:Nat):Int) then
 (aaj x14.2.2.2.1 ({ x14.2.1 with m:=r17.2.1 }:EnvP)).bind fun r21 =>
 some (r21.2.2.1,x14.2.2.1,r21.2.1,x14.2.2.2.2.1,x14.2.2.2.2.2.1,x14.2.2.2.2.2.2.1,())
 else
 if r18.1.1=((0:Nat):Int) then
 (aaj x14.2.2.1 ({ x14.2.1 with m:=r17.2.1 }:EnvP)).bind fun r22 =>
 some (r22.2.2.1,r22.2.1,x14.2.2.2.1,x14.2.2.2.2.1,x14.2.2.2.2.2.1,x14.2.2.2.2.2.2.1,())
 else
 none
 else
 if ((asy l x14.1).kind)=1 then
 (aeV x14.2.1.k).bind fun r23 =>
 some (({ x14.2.1 with m:=r17.2.1,k:=r23.2.1 }:EnvP),x14.2.2.1,x14.2.2.2.1,x14.2.2.2.2.1,x14.2.2.2.2.2.1,x14.2.2.2.2.2.2.1,())
 else
 if ((asy l x14.1).kind)=2 then
 (afH x14.2.1.k ((asy l x14.1).value)).bind fun r24 =>
 some (({ x14.2.1 with m:=r17.2.1,k:=r24.2.1 }:EnvP),x14.2.2.1,x14.2.2.2.1,x14.2.2.2.2.1,x14.2.2.2.2.2.1,x14.2.2.2.2.2.2.1,())
 else
 some (({ x14.2.1 with m:=r17.2.1 }:EnvP),x14.2.2.1,x14.2.2.2.1,x14.2.2.2.2.1,x14.2.2.2.2.2.1,x14.2.2.2.2.2.2.1,())
 ):Option (EnvP×(WorkerV MV)×(WorkerV MV)×(WorkerV MV)×(ClientV MV)×(Int×List Int×Int×Int×Int×Int×Unit)×Unit))
noncomputable def aql (l:List EntV) (self16:avX→Option (avX)) (x14:avX):Option (avX) :=
 if x14.1<((l.length:Nat):Int) then
 if 0≤x14.1∧x14.1<((l.length:Nat):Int) then
 (ab5 x14.2.1.m).bind fun r17 =>
 (aqh l x14 r17).bind fun z25 =>
 ala r17.1.1 z25.1 z25.2.2.2.2.2.1 (fun e g =>self16 (wi (x14.1+1),e,z25.2.1,z25.2.2.1,z25.2.2.2.1,z25.2.2.2.2.1,g,()))
 else none
 else
 some (x14.1,x14.2.1,x14.2.2.1,x14.2.2.2.1,x14.2.2.2.2.1,x14.2.2.2.2.2.1,x14.2.2.2.2.2.2.1,())
abbrev avW:=Int×EnvP×(WorkerV MV)×(WorkerV MV)×(WorkerV MV)×(WorkerV MV)×(ClientV MV)×(Int×List Int×Int×Int×Int×Int×Unit)×Unit
noncomputable def aqg (l:List EntV) (x15:avW) (r18:(Int×Unit)×(MemV×Unit)) :=
 ((
 if ((asy l x15.1).kind)=0 then
 (adN (asy l x15.1) 5).bind fun r19 =>
 if r19.1.1=((4:Nat):Int) then
 (aau x15.2.2.2.2.2.2.1 ({ x15.2.1 with m:=r18.2.1 }:EnvP)).bind fun r20 =>
 some (r20.2.2.1,x15.2.2.1,x15.2.2.2.1,x15.2.2.2.2.1,x15.2.2.2.2.2.1,r20.2.1,x15.2.2.2.2.2.2.2.1,())
 else
 if r19.1.1=((3:Nat):Int) then
 (aaj x15.2.2.2.2.2.1 ({ x15.2.1 with m:=r18.2.1 }:EnvP)).bind fun r21 =>
 some (r21.2.2.1,x15.2.2.1,x15.2.2.2.1,x15.2.2.2.2.1,r21.2.1,x15.2.2.2.2.2.2.1,x15.2.2.2.2.2.2.2.1,())
 else
 if r19.1.1=((2:Nat):Int) then
 (aaj x15.2.2.2.2.1 ({ x15.2.1 with m:=r18.2.1 }:EnvP)).bind fun r22 =>
 some (r22.2.2.1,x15.2.2.1,x15.2.2.2.1,r22.2.1,x15.2.2.2.2.2.1,x15.2.2.2.2.2.2.1,x15.2.2.2.2.2.2.2.1,())
 else
 if r19.1.1=((1:Nat):Int) then
 (aaj x15.2.2.2.1 ({ x15.2.1 with m:=r18.2.1 }:EnvP)).bind fun r23 =>
 some (r23.2.2.1,x15.2.2.1,r23.2.1,x15.2.2.2.2.1,x15.2.2.2.2.2.1,x15.2.2.2.2.2.2.1,x15.2.2.2.2.2.2.2.1,())
 else
 if r19.1.1=((0:Nat):Int) then
 (aaj x15.2.2.1 ({ x15.2.1 with m:=r18.2.1 }:EnvP)).bind fun r24 =>
 some (r24.2.2.1,r24.2.1,x15.2.2.2.1,x15.2.2.2.2.1,x15.2.2.2.2.2.1,x15.2.2.2.2.2.2.1,x15.2.2.2.2.2.2.2.1,())
 else
 none
 else
 if ((asy l x15.1).kind)=1 then
 (aeV x15.2.1.k).bind fun r25 =>
 some (({ x15.2.1 with m:=r18.2.1,k:=r25.2.1 }:EnvP),x15.2.2.1,x15.2.2.2.1,x15.2.2.2.2.1,x15.2.2.2.2.2.1,x15.2.2.2.2.2.2.1,x15.2.2.2.2.2.2.2.1,())
 else
 if ((asy l x15.1).kind)=2 then
 (afH x15.2.1.k ((asy l x15.1).value)).bind fun r26 =>
 some (({ x15.2.1 with m:=r18.2.1,k:=r26.2.1 }:EnvP),x15.2.2.1,x15.2.2.2.1,x15.2.2.2.2.1,x15.2.2.2.2.2.1,x15.2.2.2.2.2.2.1,x15.2.2.2.2.2.2.2.1,())
 else
 some (({ x15.2.1 with m:=r18.2.1 }:EnvP),x15.2.2.1,x15.2.2.2.1,x15.2.2.2.2.1,x15.2.2.2.2.2.1,x15.2.2.2.2.2.2.1,x15.2.2.2.2.2.2.2.1,())
 ):Option (EnvP×(WorkerV MV)×(WorkerV MV)×(WorkerV MV)×(WorkerV MV)×(ClientV MV)×(Int×List Int×Int×Int×Int×Int×Unit)×Unit))
noncomputable def aqk (l:List EntV) (self17:avW→Option (avW)) (x15:avW):Option (avW) :=
 if x15.1<((l.length:Nat):Int) then
 if 0≤x15.1∧x15.1<((l.length:Nat):Int) then
 (ab5 x15.2.1.m).bind fun r18 =>
 (aqg l x15 r18).bind fun z27 =>
 ala r18.1.1 z27.1 z27.2.2.2.2.2.2.1 (fun e g =>self17 (wi (x15.1+1),e,z27.2.1,z27.2.2.1,z27.2.2.2.1,z27.2.2.2.2.1,z27.2.2.2.2.2.1,g,()))
 else none
 else
 some (x15.1,x15.2.1,x15.2.2.1,x15.2.2.2.1,x15.2.2.2.2.1,x15.2.2.2.2.2.1,x15.2.2.2.2.2.2.1,x15.2.2.2.2.2.2.2.1,())
abbrev aKy:=Int×List St×arR×Unit
noncomputable def aHN (evs:List Ev) (self:aKy→Option aKy) (x:aKy):Option aKy :=
 if x.1<((evs.length:Nat):Int) then
 if 0≤x.1∧x.1<((evs.length:Nat):Int) then
 if 0≤x.1∧x.1<((x.2.2.1.2.1.length:Nat):Int) then
 if (((x.2.1.length+([(⟨ady x.2.2.1.2.1 x.1,at4 evs x.1⟩:St)]:List St).length:Nat)):Int)<1000000000000 then
 self (wi (x.1+1),x.2.1++([(⟨ady x.2.2.1.2.1 x.1,at4 evs x.1⟩:St)]),x.2.2.1,())
 else none
 else none
 else none
 else some x
noncomputable def ayQ (y2:List Int) (c:Cfg) (self:List EntV×Int×Unit→Option (List EntV×Int×Unit)) (x:List EntV×Int×Unit):Option (List EntV×Int×Unit) :=
 if x.2.1<((y2.length:Nat):Int) then
 if x.2.1<40 then
 (aed y2 (wi (5*x.2.1)) (wi (c.workers+1))).bind fun r8 =>
 if (((x.1.length+r8.1.1.length:Nat)):Int)<1000000000000 then
 self (x.1++r8.1.1,wi (x.2.1+1),())
 else none
 else
 some (x.1,x.2.1,())
 else
 some (x.1,x.2.1,())
noncomputable def aK0 (c:Cfg) (lv cells:List Int) (self:Int×Unit→Option ((Int×Unit)⊕((Bool×Unit)×(Unit)))) (x:Int×Unit):Option ((Int×Unit)⊕((Bool×Unit)×(Unit))) :=
 if x.1<c.tasks then
 if 0≤x.1∧x.1<((lv.length:Nat):Int) then
 if 0≤(ady lv x.1) then
 if 0≤x.1∧x.1<((lv.length:Nat):Int) then
 (adK c x.1).bind fun r45 =>
 if (ady lv x.1)=(ady lv x.1) then
 if 0≤r45.1.1∧r45.1.1<((cells.length:Nat):Int) then
 if (ahf cells r45.1.1)≠(wu (ady lv x.1)) then
 Option.map Sum.inr (
 some ((false,()),())
 )
 else
 self (wi (x.1+1),())
 else none
 else none
 else none
 else
 self (wi (x.1+1),())
 else none
 else
 some (Sum.inl (x.1,()))
noncomputable def ayK (c:Cfg) (h:List Ev) (cells:List Int):Option ((Bool×Unit)×Unit) :=
 (afl c h).bind fun r38 =>
 (adJ c h).bind fun r39 =>
 (ads c h).bind fun r40 =>
 if r38.1.1≠((h.length:Nat):Int) then some ((false,()),()) else
 if r38.1.2.1≠0 then some ((false,()),()) else
 if r39.1.1≠((h.length:Nat):Int) then some ((false,()),()) else
 if r39.1.2.1≠0 then some ((false,()),()) else
 (adL c).bind fun r41 =>
 if ((cells.length:Nat):Int)≠r41.1.1 then some ((false,()),()) else
 (lpF (aK0 c r40.1.1 cells) 18446744073709551616 (0,())).bind fun q =>match q with
 | .inr o =>some o
 | .inl _ =>some ((true,()),())
def aul (l:List Ev) (x v:Int):Prop:=v=-1∨∃ t u k,ewt l t=some (u,k,some v)∧Ech l u x
theorem aBj {c:Cfg} {l:List Ev} {x v:Int} (h:Hol c l) (hx:TOk c x) (hf:aul l x v) (hn:¬ fnE l x):v≤lev l x:=by
 rcases hf with hf | ⟨t,u,k,h1,h2⟩
 ·rw [hf]; exact h.1 x hx
 ·exact (h.2 t u k v x h1 h2).resolve_left hn
theorem awP {c:Cfg} {l:List Ev} {i:Nat} (h:ait c l) (hi:i<l.length):aCf (l.take i) l[i]∧Hol c (l.take (i+1)):=by
 have e:l=l.take i++l[i]::l.drop (i+1):=by
  rw [← List.drop_eq_getElem_cons hi,List.take_append_drop]
 obtain ⟨h1,h2⟩:=h _ _ _ e
 rw [List.take_succ_eq_append_getElem hi]
 exact ⟨h1,h2⟩
def tlT {α:Type} (n:Int) (f:Int→α):List α:=(List.range n.toNat).map fun (t:Nat) =>f (t:Int)
section
variable {α:Type} {n:Int} {f g:Int→α} {t:Int} {v:α}
theorem ag7:(tlT n f).length=n.toNat:=by unfold tlT; rw [List.length_map,List.length_range]
theorem aFs (h:0≤t∧t<n):(tlT n f)[t.toNat]?=some (f t):=by
 unfold tlT
 rw [List.getElem?_map,List.getElem?_range (by omega)]
 show some (f ((t.toNat:Nat):Int))=_
 rw [show ((t.toNat:Nat):Int)=t by omega]
theorem aja (h:∀ t,0≤t→t<n→f t=g t):tlT n f=tlT n g:=by
 unfold tlT
 refine List.map_congr_left fun t ht =>h _ (by omega) ?_
 have:=List.mem_range.1 ht
 omega
theorem aIe:List.replicate n.toNat v=tlT n fun _ =>v:=by
 unfold tlT
 rw [List.map_const',List.length_range]
theorem azy (h:0≤t):(tlT n f).set t.toNat v=tlT n fun u =>if u=t then v else f u:=by
 refine List.ext_getElem? fun i =>?_
 unfold tlT
 rw [List.getElem?_set,List.getElem?_map,List.length_map,List.length_range]
 by_cases hi:i<n.toNat
 ·rw [List.getElem?_range hi,List.getElem?_map,List.getElem?_range hi]
  by_cases he:t.toNat=i
  ·rw [if_pos he,if_pos (by omega)]
   show some v=some (if ((i:Nat):Int)=t then v else f i)
   rw [if_pos (by omega)]
  ·rw [if_neg he]
   show some (f i)=some (if ((i:Nat):Int)=t then v else f i)
   rw [if_neg (by omega)]
 ·have e1:(List.range n.toNat)[i]?=none:=List.getElem?_eq_none (by rw [List.length_range]; omega)
  rw [List.getElem?_map,e1]
  split
  ·rw [if_neg (by omega)]; rfl
  ·rfl
end
theorem auq {n t:Int} {f:Int→Int} (h:0≤t∧t<n):ady (tlT n f) t=f t:=by
 show ((tlT n f)[t.toNat]?).getD _=_
 rw [aFs h]; rfl
theorem aEx {n t:Int} {f:Int→Bool} (h:0≤t∧t<n):anD (tlT n f) t=f t:=by
 show ((tlT n f)[t.toNat]?).getD _=_
 rw [aFs h]; rfl
theorem aBn {l:List Ev} {i:Int} (h:0≤i∧i<(l.length:Int)):∃ hi:i.toNat<l.length,at4 l i=l[i.toNat]:=by
 have hi:i.toNat<l.length:=by omega
 refine ⟨hi,?_⟩
 show (l[i.toNat]?).getD _=_
 rw [List.getElem?_eq_getElem hi]; rfl
theorem amu {l:List Ev} {i:Int} (h:0≤i∧i<(l.length:Int)):l.take (i+1).toNat=l.take i.toNat++[at4 l i]:=by
 obtain ⟨hi,e⟩:=aBn h
 rw [e,show (i+1).toNat=i.toNat+1 by omega]
 exact List.take_succ_eq_append_getElem hi
section
variable {l:List Ev} {x:Ev} {n t:Int}
theorem at5 {out:List Int} {i y v:Int} (h:0≤i∧i<(out.length:Int)) (hy:0≤y):ady (out.set i.toNat v) y=if y=i then v else ady out y:=by
 by_cases k:y=i
 ·rw [if_pos k,k]; exact arL h
 ·rw [if_neg k]
  show ((out.set i.toNat v)[y.toNat]?).getD _=(out[y.toNat]?).getD _
  rw [List.getElem?_set_ne (by omega)]
theorem aHA {out:List Bool} {i y:Int} {v:Bool} (h:0≤i∧i<(out.length:Int)) (hy:0≤y):anD (out.set i.toNat v) y=if y=i then v else anD out y:=by
 by_cases k:y=i
 ·rw [if_pos k,k]; exact arL h
 ·rw [if_neg k]
  show ((out.set i.toNat v)[y.toNat]?).getD _=(out[y.toNat]?).getD _
  rw [List.getElem?_set_ne (by omega)]
def aHU (x:Ev):Prop:=x.kind=1∨x.kind=3∨x.kind=11∨x.kind=12
def fnB (l:List Ev) (t:Int):Bool:=decide (ack kFn l t≠0)
theorem aBi:fnB l t=true↔fnE l t:=decide_eq_true_iff
theorem ayc (h:0≤x.task) (hk:aHU x):(tlT n (lev l)).set x.task.toNat x.level=tlT n (lev (l++[x])):=by
 rw [azy h]
 refine aja fun t _ _ =>?_
 rw [aom]
 unfold aGO
 by_cases a:x.task=t
 ·rw [if_pos a.symm,if_pos ⟨a,hk⟩]
 ·rw [if_neg (fun k =>a k.symm),if_neg (fun k =>a k.1)]
theorem ats (h:¬ aHU x∨¬ (0≤x.task∧x.task<n)):tlT n (lev l)=tlT n (lev (l++[x])):=aja fun t h1 h2 =>by
 rw [aom]
 unfold aGO
 rw [if_neg]
 rintro ⟨a,k⟩
 rcases h with h | h
 ·exact h k
 ·exact h (by omega)
theorem aE8 (h:0≤x.task) (hk:x.kind=10):(tlT n (fnB l)).set x.task.toNat true=tlT n (fnB (l++[x])):=by
 rw [azy h]
 refine aja fun t _ _ =>?_
 unfold fnB
 rw [ab7,adn]
 by_cases a:x.task=t
 ·rw [if_pos a.symm,if_pos ⟨a,by rw [hk]; decide⟩]
  exact (decide_eq_true (by omega)).symm
 ·rw [if_neg (fun k =>a k.symm),if_neg (fun k =>a k.1),Nat.add_zero]
theorem akP (h:x.kind≠10∨¬ (0≤x.task∧x.task<n)):tlT n (fnB l)=tlT n (fnB (l++[x])):=aja fun t h1 h2 =>by
 unfold fnB
 rw [ab7,adn,if_neg,Nat.add_zero]
 rintro ⟨a,k⟩
 rcases h with h | h
 ·unfold kFn at k; exact h (of_decide_eq_true k)
 ·exact h (by omega)
end
def wOf:EW→Option WaitV
 | none =>none
 | some (u,k,none) =>some ⟨u,k,false,0⟩
 | some (u,k,some T) =>some ⟨u,k,true,T⟩
def wF (c:Cfg) (l:List Ev) (t:Int):Option WaitV:=if 0≤t∧t<c.tasks then wOf (ewt l t) else none
def afn (c:Cfg) (l:List Ev):InhV:=⟨tlT c.tasks (lev l),tlT c.tasks (fnB l),wF c l⟩
section
variable {c:Cfg} {l:List Ev} {x:Ev} {t u k T:Int} {s:InhV}
theorem aqf (h:(x.kind≠6∧x.kind≠7∧x.kind≠9)∨¬ (0≤x.task∧x.task<c.tasks)):wF c l=wF c (l++[x]):=funext fun t =>by
 unfold wF
 by_cases ht:0≤t∧t<c.tasks
 ·rw [if_pos ht,if_pos ht,aea]
  refine congrArg wOf ?_
  rcases h with h | h
  ·unfold ewF; rw [if_neg (fun k =>h.1 k.2),if_neg (fun k =>h.2.1 k.2),if_neg (fun k =>h.2.2 k.2)]
  ·exact (akR fun k =>h (k▸ht)).symm
 ·rw [if_neg ht,if_neg ht]
theorem aEu {v:WaitV} (h:0≤x.task∧x.task<c.tasks) (he:wOf (ewF x.task (ewt l x.task) x)=some v):ay2 (wF c l) x.task v=wF c (l++[x]):=funext fun t =>by
 unfold ay2 wF
 by_cases a:t=x.task
 ·rw [if_pos a,a,if_pos h,aea,he]
 ·rw [if_neg a]
  by_cases ht:0≤t∧t<c.tasks
  ·rw [if_pos ht,if_pos ht,aea,akR (fun k =>a k.symm)]
  ·rw [if_neg ht,if_neg ht]
theorem aH8 (h:0≤x.task∧x.task<c.tasks) (he:ewF x.task (ewt l x.task) x=none):aAP (wF c l) x.task=wF c (l++[x]):=funext fun t =>by
 unfold aAP wF
 by_cases a:t=x.task
 ·rw [if_pos a,a,if_pos h,aea,he]; rfl
 ·rw [if_neg a]
  by_cases ht:0≤t∧t<c.tasks
  ·rw [if_pos ht,if_pos ht,aea,akR (fun k =>a k.symm)]
  ·rw [if_neg ht,if_neg ht]
theorem av9 (he:ewF x.task (ewt l x.task) x=ewt l x.task):wF c l=wF c (l++[x]):=funext fun t =>by
 unfold wF
 by_cases ht:0≤t∧t<c.tasks
 ·rw [if_pos ht,if_pos ht,aea]
  by_cases a:t=x.task
  ·rw [a,he]
  ·rw [akR (fun k =>a k.symm)]
 ·rw [if_neg ht,if_neg ht]
theorem akN {m:List Ev} (h1:s.levels=tlT c.tasks (lev m)) (h2:s.finished=tlT c.tasks (fnB m)) (h3:s.waits=wF c m):(some ((true,()),(s,())):Option ((Bool×Unit)×(InhV×Unit)))=some ((true,()),(afn c m,())):=by
 obtain ⟨a,b,w⟩:=s
 simp only at h1 h2 h3
 rw [h1,h2,h3]; rfl
theorem aLx {d:EW} (h:x.kind=7):ewF x.task d x=match d with
  | some (u,m,none) =>if m=x.worker then some (u,m,some x.level) else d
  | _ =>d:=by
 unfold ewF
 rw [if_neg (fun k =>by have:=k.2; omega),if_pos ⟨rfl,h⟩]
 rcases d with _ | ⟨u,k,_ | T⟩<;>rfl
theorem azz {α:Type} {f:Int→α} (h:0≤t∧t<c.tasks):0≤t∧t<(((tlT c.tasks f).length:Nat):Int):=by rw [ag7]; omega
theorem aA7 (h:0≤t∧t<c.tasks):0≤t∧t<(((afn c l).levels.length:Nat):Int):=azz h
theorem aKU (h:0≤t∧t<c.tasks):0≤t∧t<(((afn c l).finished.length:Nat):Int):=azz h
theorem aJm (h:0≤x.task∧x.task<c.tasks) (hk:¬ aHU x):aDI (afn c l) x=some ((true,()),(afn c (l++[x]),())):=by
 have e1:tlT c.tasks (lev l)=tlT c.tasks (lev (l++[x])):=ats (.inl hk)
 have e2:x.kind≠10→tlT c.tasks (fnB l)=tlT c.tasks (fnB (l++[x])):=fun h =>akP (.inl h)
 have ew:(afn c l).waits x.task=wOf (ewt l x.task):=if_pos h
 unfold aDI
 by_cases h6:x.kind=6
 ·rw [if_pos h6]
  refine akN e1 (e2 (by omega)) (aEu h ?_)
  unfold ewF
  rw [if_pos ⟨rfl,h6⟩]; rfl
 rw [if_neg h6]
 by_cases h7:x.kind=7
 ·rw [if_pos h7,ew]
  have e7:=aLx (d:=ewt l x.task) h7
  rcases hE:ewt l x.task with _ | ⟨u,k,_ | T⟩
  ·have p1:¬ (wOf none).isSome=true:=Bool.false_ne_true
   rw [if_neg p1]
   refine akN e1 (e2 (by omega)) (av9 ?_)
   rw [e7,hE]
  ·have p1:(wOf (some (u,k,none))).isSome=true:=rfl
   have p2:(!((wOf (some (u,k,none))).getD (⟨0,0,false,0⟩:WaitV)).settled)=true:=rfl
   have p3:((wOf (some (u,k,none))).getD (⟨0,0,false,0⟩:WaitV)).worker=k:=rfl
   rw [if_pos p1,if_pos p2,p3]
   by_cases hw:k=x.worker
   ·rw [if_pos hw,if_pos rfl]
    refine akN e1 (e2 (by omega)) (aEu h ?_)
    rw [e7,hE]
    show wOf (if k=x.worker then _ else _)=_
    rw [if_pos hw]; rfl
   ·rw [if_neg hw]
    refine akN e1 (e2 (by omega)) (av9 ?_)
    rw [e7,hE]
    exact if_neg hw
  ·have p1:(wOf (some (u,k,some T))).isSome=true:=rfl
   have p2:¬ (!((wOf (some (u,k,some T))).getD (⟨0,0,false,0⟩:WaitV)).settled)=true:=Bool.false_ne_true
   rw [if_pos p1,if_neg p2]
   refine akN e1 (e2 (by omega)) (av9 ?_)
   rw [e7,hE]
 rw [if_neg h7]
 by_cases h9:x.kind=9
 ·rw [if_pos h9]
  refine akN e1 (e2 (by omega)) (aH8 h ?_)
  unfold ewF
  rw [if_neg (fun k =>h6 k.2),if_neg (fun k =>h7 k.2),if_pos ⟨rfl,h9⟩]
 rw [if_neg h9]
 by_cases h10:x.kind=10
 ·rw [if_pos h10,if_pos (aKU h)]
  exact akN e1 (aE8 h.1 h10) (aqf (.inl ⟨h6,h7,h9⟩))
 ·rw [if_neg h10]
  exact akN e1 (e2 h10) (aqf (.inl ⟨h6,h7,h9⟩))
theorem aJn (h:0≤x.task∧x.task<c.tasks) (h1:x.kind≠11) (h2:x.kind≠12):aDJ (afn c l) x=some ((true,()),(afn c (l++[x]),())):=by
 have st:x.kind=1∨x.kind=3→(some ((true,()),(({ afn c l with levels:=(afn c l).levels.set x.task.toNat x.level }:InhV),())):Option ((Bool×Unit)×(InhV×Unit)))=some ((true,()),(afn c (l++[x]),())):=fun hk =>akN (ayc h.1 (hk.elim .inl fun q =>.inr (.inl q))) (akP (.inl (by omega))) (aqf (.inl (by omega)))
 unfold aDJ
 by_cases k1:x.kind=1
 ·rw [if_pos k1,if_pos k1,if_pos (aA7 h)]
  exact st (.inl k1)
 rw [if_neg k1]
 by_cases k3:x.kind=3
 ·rw [if_pos k3,if_pos (aA7 h)]
  exact st (.inr k3)
 rw [if_neg k3]
 exact aJm h (by unfold aHU; omega)
theorem aEZ (h:0≤x.task∧x.task<c.tasks) (hk:x.kind=11∨x.kind=12) (ho:aCf l x):aDH (afn c l) x=some ((true,()),(afn c (l++[x]),())):=by
 obtain ⟨o1,o2⟩:=ho hk
 have ea:ady (afn c l).levels x.task=lev l x.task:=auq h
 unfold aDH
 rw [if_pos (aA7 h),ea,if_pos o1,if_pos (aA7 h),bnd,if_pos (aA7 h)]
 rw [decide_eq_true o2]
 exact akN (ayc h.1 (.inr (.inr hk))) (akP (.inl (by omega))) (aqf (.inl (by omega)))
theorem aA6 (hn:0≤c.tasks) (ho:aCf l x):adF (afn c l) x=some ((true,()),(afn c (l++[x]),())):=by
 have ell:(((afn c l).levels.length:Nat):Int)=c.tasks:=by
  show (((tlT c.tasks (lev l)).length:Nat):Int)=_
  rw [ag7]; omega
 have out:¬ (0≤x.task∧x.task<c.tasks)→(some ((true,()),(afn c l,())):Option ((Bool×Unit)×(InhV×Unit)))=some ((true,()),(afn c (l++[x]),())):=fun h =>akN (ats (.inr h)) (akP (.inr h)) (aqf (.inr h))
 unfold adF
 by_cases h0:x.task<0
 ·rw [if_pos h0]; exact out (by omega)
 rw [if_neg h0,ell]
 by_cases h1:c.tasks≤x.task
 ·rw [if_pos h1]; exact out (by omega)
 rw [if_neg h1]
 have h:0≤x.task∧x.task<c.tasks:=by omega
 by_cases k1:x.kind=11
 ·rw [if_pos k1,if_pos k1]; exact aEZ h (.inl k1) ho
 rw [if_neg k1]
 by_cases k2:x.kind=12
 ·rw [if_pos k2]; exact aEZ h (.inr k2) ho
 rw [if_neg k2]
 exact aJn h k1 k2
theorem aJG {out:List Int} {y:Int} (hl:(out.length:Int)=c.tasks) (hy:0≤y∧y<c.tasks) (hf:∀ z,TOk c z→aul l z (ady out z)) (hE:ewt l t=some (u,k,some T)) (hc:Ech l u y):∀ z,TOk c z→aul l z (ady (out.set y.toNat T) z):=fun z hz =>by
 rw [at5 (by omega) hz.1]
 split
 ·rename_i q; rw [q]; exact .inr ⟨t,u,k,hE,hc⟩
 ·exact hf z hz
theorem azt (h:0≤t∧t<c.tasks) (hs:(wAt (afn c l).waits t).settled=true):∃ u k T,ewt l t=some (u,k,some T)∧(wAt (afn c l).waits t).child=u∧(wAt (afn c l).waits t).level=T:=by
 have ew:(afn c l).waits t=wOf (ewt l t):=if_pos h
 unfold wAt at hs ⊢
 rw [ew] at hs ⊢
 rcases hE:ewt l t with _ | ⟨u,k,_ | T⟩
 ·rw [hE] at hs; cases hs
 ·rw [hE] at hs; cases hs
 ·exact ⟨u,k,T,rfl,rfl,rfl⟩
theorem aJl (hn:0≤c.tasks∧c.tasks≤1000000) (hE:ewt l t=some (u,k,some T)) (eT:(wAt (afn c l).waits t).level=T) {has:List Bool} {out:List Int} (h1:(has.length:Int)=c.tasks) (h2:(out.length:Int)=c.tasks) (h3:∀ y,TOk c y→aul l y (ady out y)) :
  aaD (lpF (aG1 (afn c l) t) 18446744073709551616 (u,0,has,out,afn c l,())) fun z =>((z.2.2.1.length:Int)=c.tasks∧(z.2.2.2.1.length:Int)=c.tasks∧∀ y,TOk c y→aul l y (ady z.2.2.2.1 y))∧z.2.2.2.2.1=afn c l:=by
 refine abj (fun x =>(0≤x.2.1∧x.2.1≤c.tasks)∧Ech l u x.1∧((x.2.2.1.length:Int)=c.tasks∧(x.2.2.2.1.length:Int)=c.tasks∧∀ y,TOk c y→aul l y (ady x.2.2.2.1 y))∧x.2.2.2.2.1=afn c l) (fun x =>(c.tasks-x.2.1).toNat) (fun self x hx ih =>?_) _ _ ⟨⟨Int.le_refl 0,hn.1⟩,.here,⟨h1,h2,h3⟩,rfl⟩ (by show (c.tasks-0).toNat<_; omega)
 obtain ⟨y,i,has,out,s,⟨⟩⟩:=x
 obtain ⟨⟨q1,q2⟩,q3,⟨q4,q5,q6⟩,q7⟩:=hx
 simp only at q1 q2 q3 q4 q5 q6 q7
 subst q7
 have ell:(((afn c l).levels.length:Nat):Int)=c.tasks:=by
  show (((tlT c.tasks (lev l)).length:Nat):Int)=_
  rw [ag7]; omega
 have e1:wi (i+1)=i+1:=aaC (aai (by omega))
 unfold aG1
 simp only
 rw [ell,eT,e1]
 refine aaD.ite (fun hlt =>aaD.ite (fun _ =>.some_ ⟨⟨q4,q5,q6⟩,rfl⟩) fun h0 =>aaD.ite (fun _ =>.some_ ⟨⟨q4,q5,q6⟩,rfl⟩) fun hy =>?_) fun _ =>.some_ ⟨⟨q4,q5,q6⟩,rfl⟩
 have hyr:0≤y∧y<c.tasks:=by omega
 have gh:0≤y∧y<((has.length:Nat):Int):=by omega
 have go:0≤y∧y<((out.length:Nat):Int):=by omega
 have nx:∀ {has':List Bool} {out':List Int},(has'.length:Int)=c.tasks→(out'.length:Int)=c.tasks→(∀ y,TOk c y→aul l y (ady out' y))→aaD (if (!((wAt (afn c l).waits y).settled))=true then some (y,i,has',out',afn c l,()) else self ((wAt (afn c l).waits y).child,i+1,has',out',afn c l,())) fun z =>((z.2.2.1.length:Int)=c.tasks∧(z.2.2.2.1.length:Int)=c.tasks∧∀ y,TOk c y→aul l y (ady z.2.2.2.1 y))∧z.2.2.2.2.1=afn c l:=fun {has' out'} a1 a2 a3 =>by
  refine aaD.ite (fun _ =>.some_ ⟨⟨a1,a2,a3⟩,rfl⟩) fun hs =>?_
  obtain ⟨v,k',T',hv,ec,_⟩:=azt (c:=c) (l:=l) hyr (by revert hs; cases (wAt (afn c l).waits y).settled<;>simp)
  rw [ec]
  exact ih _ ⟨⟨by show 0≤i+1; omega,by show i+1≤_; omega⟩,.next q3 hv,⟨a1,a2,a3⟩,rfl⟩ (by show (_-(i+1):Int).toNat<(_-i:Int).toNat; omega)
 have st:aaD (if (!((wAt (afn c l).waits y).settled))=true then some (y,i,has.set y.toNat true,out.set y.toNat T,afn c l,()) else self ((wAt (afn c l).waits y).child,i+1,has.set y.toNat true,out.set y.toNat T,afn c l,())) fun z =>((z.2.2.1.length:Int)=c.tasks∧(z.2.2.2.1.length:Int)=c.tasks∧∀ y,TOk c y→aul l y (ady z.2.2.2.1 y))∧z.2.2.2.2.1=afn c l:=nx (by rw [List.length_set]; exact q4) (by rw [List.length_set]; exact q5) (aJG q5 hyr q6 hE q3)
 exact .guard gh fun _ =>aaD.ite (fun _ =>.guard go fun _ =>.guard gh fun _ =>st) fun _ =>.guard go fun _ =>aaD.ite (fun _ =>.guard go fun _ =>.guard gh fun _ =>st) fun _ =>nx q4 q5 q6
theorem ay4 (hn:0≤c.tasks∧c.tasks≤1000000):aaD (abO (afn c l)) fun r =>r.2.1=afn c l∧(r.1.1.length:Int)=c.tasks∧∀ y,TOk c y→aul l y (ady r.1.1 y):=by
 have ell:(((afn c l).levels.length:Nat):Int)=c.tasks:=by
  show (((tlT c.tasks (lev l)).length:Nat):Int)=_
  rw [ag7]; omega
 unfold abO adw
 rw [ell,if_pos rfl,if_pos (by omega),if_pos rfl,if_pos (by omega),bnd]
 unfold aeM
 have r0:((List.replicate c.tasks.toNat (0:Int)).length:Int)=c.tasks:=by rw [List.length_replicate]; omega
 refine aaD.bind (P:=fun z =>(z.2.1.length:Int)=c.tasks∧∀ y,TOk c y→ady z.2.1 y=-1) (abj (fun x =>(0≤x.1∧x.1≤c.tasks)∧(x.2.1.length:Int)=c.tasks∧∀ y,TOk c y→y<x.1→ady x.2.1 y=-1) (fun x =>(c.tasks-x.1).toNat) (fun self x hx ih =>?s1) _ _ ⟨⟨Int.le_refl 0,hn.1⟩,r0,fun y hy k =>absurd k (by show ¬ y<0; have:=hy.1; omega)⟩ (by show (c.tasks-0).toNat<_; omega)) fun z hz =>?s2
 case s1 =>
  obtain ⟨i,out,⟨⟩⟩:=x
  obtain ⟨⟨q1,q2⟩,q3,q4⟩:=hx
  simp only at q1 q2 q3 q4
  have e1:wi (i+1)=i+1:=aaC (aai (by omega))
  unfold aE3
  simp only
  rw [r0,e1]
  refine aaD.ite (fun hlt =>.guard (by omega) fun _ =>?_) fun hge =>.some_ ⟨q3,fun y hy =>q4 y hy (by have:=hy.2; omega)⟩
  refine ih _ ⟨⟨by show 0≤i+1; omega,by show i+1≤_; omega⟩,by show ((out.set _ _).length:Int)=_; rw [List.length_set]; exact q3,fun y hy k =>?_⟩ (by show (_-(i+1):Int).toNat<(_-i:Int).toNat; omega)
  have k:y<i+1:=k
  show ady (out.set i.toNat (-1)) y=-1
  rw [at5 (by omega) hy.1]
  split
  ·rfl
  ·exact q4 y hy (by omega)
 case s2 =>
  have rb:((List.replicate c.tasks.toNat false).length:Int)=c.tasks:=by rw [List.length_replicate]; omega
  refine aaD.bind (P:=fun z =>((z.2.1.length:Int)=c.tasks∧(z.2.2.1.length:Int)=c.tasks∧∀ y,TOk c y→aul l y (ady z.2.2.1 y))∧z.2.2.2.1=afn c l) (abj (fun x =>(0≤x.1∧x.1≤c.tasks)∧((x.2.1.length:Int)=c.tasks∧(x.2.2.1.length:Int)=c.tasks∧∀ y,TOk c y→aul l y (ady x.2.2.1 y))∧x.2.2.2.1=afn c l) (fun x =>(c.tasks-x.1).toNat) (fun self x hx ih =>?s3) _ _ ⟨⟨Int.le_refl 0,hn.1⟩,⟨rb,hz.1,fun y hy =>.inl (hz.2 y hy)⟩,rfl⟩ (by show (c.tasks-0).toNat<_; omega)) fun v hv =>.some_ ⟨hv.2,hv.1.2⟩
  obtain ⟨i,has,out,s,⟨⟩⟩:=x
  obtain ⟨⟨q1,q2⟩,⟨q3,q4,q5⟩,q6⟩:=hx
  simp only at q1 q2 q3 q4 q5 q6
  subst q6
  have e1:wi (i+1)=i+1:=aaC (aai (by omega))
  unfold aE0
  simp only
  rw [ell,e1]
  refine aaD.ite (fun hlt =>aaD.ite (fun _ =>?_) fun hs =>?_) fun _ =>.some_ ⟨⟨q3,q4,q5⟩,rfl⟩
  ·exact ih _ ⟨⟨by show 0≤i+1; omega,by show i+1≤_; omega⟩,⟨q3,q4,q5⟩,rfl⟩ (by show (_-(i+1):Int).toNat<(_-i:Int).toNat; omega)
  ·obtain ⟨u,k,T,hE,ec,eT⟩:=azt (c:=c) (l:=l) (t:=i) ⟨q1,hlt⟩ (by revert hs; cases (wAt (afn c l).waits i).settled<;>simp)
   rw [ec]
   exact (aJl hn hE eT q3 q4 q5).bind fun z9 h9 =>ih _ ⟨⟨by show 0≤i+1; omega,by show i+1≤_; omega⟩,h9.1,h9.2⟩ (by show (_-(i+1):Int).toNat<(_-i:Int).toNat; omega)
theorem inh_holds (hn:0≤c.tasks∧c.tasks≤1000000) (hH:Hol c l):aaD (aeD (afn c l)) fun r =>r.1.1=true∧r.2.1=afn c l:=by
 have ell:(((afn c l).levels.length:Nat):Int)=c.tasks:=by
  show (((tlT c.tasks (lev l)).length:Nat):Int)=_
  rw [ag7]; omega
 have elf:(((afn c l).finished.length:Nat):Int)=c.tasks:=by
  show (((tlT c.tasks (fnB l)).length:Nat):Int)=_
  rw [ag7]; omega
 unfold aeD
 refine (ay4 hn).bind fun r hr =>?_
 obtain ⟨r1,r2,r3⟩:=hr
 refine aaD.bind (P:=fun z =>∃ i,z=.inl (i,afn c l,())) (abj (fun x =>(0≤x.1∧x.1≤c.tasks)∧x.2.1=afn c l) (fun x =>(c.tasks-x.1).toNat) (fun self x hx ih =>?s1) _ _ ⟨⟨Int.le_refl 0,hn.1⟩,r1⟩ (by show (c.tasks-0).toNat<_; omega)) fun z hz =>?s2
 case s1 =>
  obtain ⟨i,s,⟨⟩⟩:=x
  obtain ⟨⟨q1,q2⟩,q3⟩:=hx
  simp only at q1 q2 q3
  subst q3
  have e1:wi (i+1)=i+1:=aaC (aai (by omega))
  unfold aE2
  simp only
  rw [ell,elf,r2,e1]
  have nx:i<c.tasks→aaD (self (i+1,afn c l,())) fun z =>∃ i,z=.inl (i,afn c l,()):=fun hlt =>ih _ ⟨⟨by show 0≤i+1; omega,by show i+1≤_; omega⟩,rfl⟩ (by show (_-(i+1):Int).toNat<(_-i:Int).toNat; omega)
  refine aaD.ite (fun hlt =>.guard ⟨q1,hlt⟩ fun _ =>.guard ⟨q1,hlt⟩ fun _ =>aaD.ite (fun hf =>.guard ⟨q1,hlt⟩ fun _ =>aaD.ite (fun hlow =>?_) fun _ =>nx hlt) fun _ =>nx hlt) fun _ =>.some_ ⟨_,rfl⟩
  exfalso
  have ea:ady (afn c l).levels i=lev l i:=auq ⟨q1,hlt⟩
  have eb:anD (afn c l).finished i=fnB l i:=aEx ⟨q1,hlt⟩
  rw [eb] at hf
  rw [ea] at hlow
  have:=aBj hH ⟨q1,hlt⟩ (r3 i ⟨q1,hlt⟩) fun k =>by
   rw [aBi.2 k] at hf; cases hf
  omega
 case s2 =>
  obtain ⟨i,rfl⟩:=hz
  exact .some_ ⟨rfl,rfl⟩
theorem asI {α:Type} {f:Int→α} {i:Int} (h:0≤i):tlT (i+1) f=tlT i f++[f i]:=by
 unfold tlT
 rw [show (i+1).toNat=i.toNat+1 by omega,List.range_succ,List.map_append]
 show _++[f ((i.toNat:Nat):Int)]=_
 rw [show ((i.toNat:Nat):Int)=i by omega]
theorem aGZ:afn c []=⟨tlT c.tasks fun _ =>-1,tlT c.tasks fun _ =>false,mp0⟩:=by
 unfold afn
 have e:wF c []=mp0:=funext fun t =>by unfold wF; split<;>rfl
 rw [e]; rfl
theorem aG0 (hn:0≤c.tasks∧c.tasks≤1000000):aaD (aeu c) fun r =>r.1.1=afn c []:=by
 unfold aeu
 rw [if_pos rfl,if_pos (by omega),aGZ,aIe]
 refine aaD.bind (P:=fun z =>z.2.1=⟨tlT c.tasks fun _ =>-1,tlT c.tasks fun _ =>false,mp0⟩) (abj (fun x =>(0≤x.1∧x.1≤c.tasks)∧x.2.1=⟨tlT x.1 fun _ =>-1,tlT c.tasks fun _ =>false,mp0⟩) (fun x =>(c.tasks-x.1).toNat) (fun self x hx ih =>?s1) _ _ ⟨⟨Int.le_refl 0,hn.1⟩,rfl⟩ (by show (c.tasks-0).toNat<_; omega)) fun z hz =>.some_ hz
 obtain ⟨i,s,⟨⟩⟩:=x
 obtain ⟨⟨q1,q2⟩,q3⟩:=hx
 simp only at q1 q2 q3
 subst q3
 have e1:wi (i+1)=i+1:=aaC (aai (by omega))
 unfold aE1
 simp only
 rw [e1]
 refine aaD.ite (fun hlt =>.guard (by rw [ag7,List.length_singleton]; omega) fun _ =>?_) fun hge =>.some_ ?_
 ·refine ih _ ⟨⟨by show 0≤i+1; omega,by show i+1≤_; omega⟩,?_⟩ (by show (_-(i+1):Int).toNat<(_-i:Int).toNat; omega)
  show (⟨tlT i (fun _ =>-1)++[-1],_,_⟩:InhV)=⟨tlT (i+1) fun _ =>-1,_,_⟩
  rw [asI q1]
 ·show (⟨tlT i (fun _ =>-1),_,_⟩:InhV)=_
  rw [show i=c.tasks by omega]
theorem aA5 {h:List Ev} (hd:DecOk c) (g:ait c h) (hl:h.length≤999999999):aaD (afl c h) fun r =>r.1.1=(h.length:Int)∧r.1.2.1=0:=by
 have ht:=hd.t
 have hn:0≤c.tasks∧c.tasks≤1000000:=by omega
 unfold afl ajB
 rw [bnd,if_neg (fun k =>k (afG hd))]
 refine (aG0 hn).bind fun r hr =>?_
 refine aaD.bind (P:=fun z =>∃ u,z=.inl u) (abj (fun x =>(0≤x.1∧x.1≤(h.length:Int))∧x.2.1=afn c (h.take x.1.toNat)) (fun x =>((h.length:Int)-x.1).toNat) (fun self x hx ih =>?s1) _ _ ⟨⟨Int.le_refl 0,by show (0:Int)≤_; omega⟩,hr⟩ (by show ((h.length:Int)-0).toNat<_; omega)) fun z hz =>?s2
 case s1 =>
  obtain ⟨i,s,⟨⟩⟩:=x
  obtain ⟨⟨q1,q2⟩,q3⟩:=hx
  simp only at q1 q2 q3
  subst q3
  have e1:wi (i+1)=i+1:=aaC (aai (by omega))
  unfold aE4
  simp only
  rw [e1]
  refine aaD.ite (fun hlt =>.guard ⟨q1,hlt⟩ fun _ =>?_) fun _ =>.some_ ⟨_,rfl⟩
  obtain ⟨hi,ea⟩:=aBn ⟨q1,hlt⟩
  obtain ⟨g1,g2⟩:=awP g hi
  have hn2:=amu ⟨q1,hlt⟩
  rw [← ea] at g1
  rw [aA6 hn.1 g1,bnd]
  simp only
  rw [if_neg (by decide),← hn2,show (i+1).toNat=i.toNat+1 by omega]
  refine (inh_holds hn g2).bind fun r hr =>?_
  rw [hr.1,if_neg (by decide),hr.2]
  exact ih _ ⟨⟨by show 0≤i+1; omega,by show i+1≤_; omega⟩,by show _=afn c (h.take (i+1).toNat); rw [show (i+1).toNat=i.toNat+1 by omega]⟩ (by show (_-(i+1):Int).toNat<(_-i:Int).toNat; omega)
 case s2 =>
  obtain ⟨u,rfl⟩:=hz
  exact .some_ ⟨rfl,rfl⟩
end
end
end Go.Proofs.YteapeojalliebaaGreat
