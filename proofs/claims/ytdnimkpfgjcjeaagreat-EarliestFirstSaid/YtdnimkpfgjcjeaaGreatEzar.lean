/- An engine's loops,Done and Events by names. An engine's loops,for any invariant of its machines. An engine's loops,for any invariant of its machines and every number of workers. EarliestFirst's own loops by names. EarliestFirst: what order says of the events,and the law's own loops. EarliestFirst by names. EarliestFirst by names. EarliestFirst by names. EarliestFirst by names. EarliestFirst answers true. -/
import Derived.Test.YtdnimkpfgjcjeaaGreatEzam
import Derived.Test.YtdnimkpfgjcjeaaGreatEzaq
import Derived.Test.YtdnimkpfgjcjeaaGreatEzap
set_option linter.all false
namespace Go.Proofs.YtdnimkpfgjcjeaaGreat
section
open Go Go.RowKit
set_option maxRecDepth 100000
variable [Tb]
abbrev aqE:=Int×List Int×Int×Int×Int×Int×Unit
noncomputable def aj3 {σ:Type} (c0:Int) (env:EnvP) (eng:aqE) (self:EnvP→aqE→Option σ):Option σ :=
 (aaU env.m).bind fun r22 =>
 if c0<r22.1.1 then
 (adN r22.2.1).bind fun r23 =>
 (lpF (σ:=EnvP×(Int×List Int×Int×Int×Int×Int×Unit)×Unit) (β:=EnvP×(Int×List Int×Int×Int×Int×Int×Unit)×Unit) (fun self26 x24 =>
 if ((x24.2.1.2.1.length:Nat):Int)<((x24.1.evs.length:Nat):Int) then
 if (((x24.2.1.2.1.length+([x24.2.1.1]:List Int).length:Nat)):Int)<1000000000000 then
 self26 (x24.1,(x24.2.1.1,x24.2.1.2.1++([x24.2.1.1]),x24.2.1.2.2.1,x24.2.1.2.2.2.1,x24.2.1.2.2.2.2.1,x24.2.1.2.2.2.2.2.1,()),())
 else none
 else
 some (x24.1,x24.2.1,())
 ) 18446744073709551616 (({ env with m:=r23.2.1 }:EnvP),(eng.1,eng.2.1,r23.1.1.kind,r23.1.1.cell,r23.1.1.old,r23.1.1.new,()),())).bind fun z25 =>
 self z25.1 (wi (z25.2.1.1+1),z25.2.1.2.1,z25.2.1.2.2.1,z25.2.1.2.2.2.1,z25.2.1.2.2.2.2.1,z25.2.1.2.2.2.2.2.1,())
 else
 (lpF (σ:=EnvP×(Int×List Int×Int×Int×Int×Int×Unit)×Unit) (β:=EnvP×(Int×List Int×Int×Int×Int×Int×Unit)×Unit) (fun self29 x27 =>
 if ((x27.2.1.2.1.length:Nat):Int)<((x27.1.evs.length:Nat):Int) then
 if (((x27.2.1.2.1.length+([x27.2.1.1]:List Int).length:Nat)):Int)<1000000000000 then
 self29 (x27.1,(x27.2.1.1,x27.2.1.2.1++([x27.2.1.1]),x27.2.1.2.2.1,x27.2.1.2.2.2.1,x27.2.1.2.2.2.2.1,x27.2.1.2.2.2.2.2.1,()),())
 else none
 else
 some (x27.1,x27.2.1,())
 ) 18446744073709551616 (({ env with m:=r22.2.1 }:EnvP),(eng.1,eng.2.1,0,0,0,0,()),())).bind fun z28 =>
 self z28.1 (wi (z28.2.1.1+1),z28.2.1.2.1,z28.2.1.2.2.1,z28.2.1.2.2.2.1,z28.2.1.2.2.2.2.1,z28.2.1.2.2.2.2.2.1,())
abbrev auP:=Int×EnvP×(WorkerV MV)×(ClientV MV)×(Int×List Int×Int×Int×Int×Int×Unit)×Unit
noncomputable def ao8 (l:List EntV) (x12:auP) (r15:(Int×Unit)×(MemV×Unit)) :=
 ((
 if ((aoy l x12.1).kind)=0 then
 (acw (aoy l x12.1) 2).bind fun r16 =>
 if r16.1.1=((1:Nat):Int) then
 (aap x12.2.2.2.1 ({ x12.2.1 with m:=r15.2.1 }:EnvP)).bind fun r17 =>
 some (r17.2.2.1,x12.2.2.1,r17.2.1,x12.2.2.2.2.1,())
 else
 if r16.1.1=((0:Nat):Int) then
 (aah x12.2.2.1 ({ x12.2.1 with m:=r15.2.1 }:EnvP)).bind fun r18 =>
 some (r18.2.2.1,r18.2.1,x12.2.2.2.1,x12.2.2.2.2.1,())
 else
 none
 else
 if ((aoy l x12.1).kind)=1 then
 (adj x12.2.1.k).bind fun r19 =>
 some (({ x12.2.1 with m:=r15.2.1,k:=r19.2.1 }:EnvP),x12.2.2.1,x12.2.2.2.1,x12.2.2.2.2.1,())
 else
 if ((aoy l x12.1).kind)=2 then
 (adI x12.2.1.k ((aoy l x12.1).value)).bind fun r20 =>
 some (({ x12.2.1 with m:=r15.2.1,k:=r20.2.1 }:EnvP),x12.2.2.1,x12.2.2.2.1,x12.2.2.2.2.1,())
 else
 some (({ x12.2.1 with m:=r15.2.1 }:EnvP),x12.2.2.1,x12.2.2.2.1,x12.2.2.2.2.1,())
 ):Option (EnvP×(WorkerV MV)×(ClientV MV)×(Int×List Int×Int×Int×Int×Int×Unit)×Unit))
noncomputable def apc (l:List EntV) (self14:auP→Option (auP)) (x12:auP):Option (auP) :=
 if x12.1<((l.length:Nat):Int) then
 if 0≤x12.1∧x12.1<((l.length:Nat):Int) then
 (aaU x12.2.1.m).bind fun r15 =>
 (ao8 l x12 r15).bind fun z21 =>
 aj3 r15.1.1 z21.1 z21.2.2.2.1 (fun e g =>self14 (wi (x12.1+1),e,z21.2.1,z21.2.2.1,g,()))
 else none
 else
 some (x12.1,x12.2.1,x12.2.2.1,x12.2.2.2.1,x12.2.2.2.2.1,())
abbrev auO:=Int×EnvP×(WorkerV MV)×(WorkerV MV)×(ClientV MV)×(Int×List Int×Int×Int×Int×Int×Unit)×Unit
noncomputable def ao7 (l:List EntV) (x13:auO) (r16:(Int×Unit)×(MemV×Unit)) :=
 ((
 if ((aoy l x13.1).kind)=0 then
 (acw (aoy l x13.1) 3).bind fun r17 =>
 if r17.1.1=((2:Nat):Int) then
 (aap x13.2.2.2.2.1 ({ x13.2.1 with m:=r16.2.1 }:EnvP)).bind fun r18 =>
 some (r18.2.2.1,x13.2.2.1,x13.2.2.2.1,r18.2.1,x13.2.2.2.2.2.1,())
 else
 if r17.1.1=((1:Nat):Int) then
 (aah x13.2.2.2.1 ({ x13.2.1 with m:=r16.2.1 }:EnvP)).bind fun r19 =>
 some (r19.2.2.1,x13.2.2.1,r19.2.1,x13.2.2.2.2.1,x13.2.2.2.2.2.1,())
 else
 if r17.1.1=((0:Nat):Int) then
 (aah x13.2.2.1 ({ x13.2.1 with m:=r16.2.1 }:EnvP)).bind fun r20 =>
 some (r20.2.2.1,r20.2.1,x13.2.2.2.1,x13.2.2.2.2.1,x13.2.2.2.2.2.1,())
 else
 none
 else
 if ((aoy l x13.1).kind)=1 then
 (adj x13.2.1.k).bind fun r21 =>
 some (({ x13.2.1 with m:=r16.2.1,k:=r21.2.1 }:EnvP),x13.2.2.1,x13.2.2.2.1,x13.2.2.2.2.1,x13.2.2.2.2.2.1,())
 else
 if ((aoy l x13.1).kind)=2 then
 (adI x13.2.1.k ((aoy l x13.1).value)).bind fun r22 =>
 some (({ x13.2.1 with m:=r16.2.1,k:=r22.2.1 }:EnvP),x13.2.2.1,x13.2.2.2.1,x13.2.2.2.2.1,x13.2.2.2.2.2.1,())
 else
 some (({ x13.2.1 with m:=r16.2.1 }:EnvP),x13.2.2.1,x13.2.2.2.1,x13.2.2.2.2.1,x13.2.2.2.2.2.1,())
 ):Option (EnvP×(WorkerV MV)×(WorkerV MV)×(ClientV MV)×(Int×List Int×Int×Int×Int×Int×Unit)×Unit))
noncomputable def apb (l:List EntV) (self15:auO→Option (auO)) (x13:auO):Option (auO) :=
 if x13.1<((l.length:Nat):Int) then
 if 0≤x13.1∧x13.1<((l.length:Nat):Int) then
 (aaU x13.2.1.m).bind fun r16 =>
 (ao7 l x13 r16).bind fun z23 =>
 aj3 r16.1.1 z23.1 z23.2.2.2.2.1 (fun e g =>self15 (wi (x13.1+1),e,z23.2.1,z23.2.2.1,z23.2.2.2.1,g,()))
 else none
 else
 some (x13.1,x13.2.1,x13.2.2.1,x13.2.2.2.1,x13.2.2.2.2.1,x13.2.2.2.2.2.1,())
abbrev auN:=Int×EnvP×(WorkerV MV)×(WorkerV MV)×(WorkerV MV)×(ClientV MV)×(Int×List Int×Int×Int×Int×Int×Unit)×Unit
noncomputable def ao6 (l:List EntV) (x14:auN) (r17:(Int×Unit)×(MemV×Unit)) :=
 ((
 if ((aoy l x14.1).kind)=0 then
 (acw (aoy l x14.1) 4).bind fun r18 =>
 if r18.1.1=((3:Nat):Int) then
 (aap x14.2.2.2.2.2.1 ({ x14.2.1 with m:=r17.2.1 }:EnvP)).bind fun r19 =>
 some (r19.2.2.1,x14.2.2.1,x14.2.2.2.1,x14.2.2.2.2.1,r19.2.1,x14.2.2.2.2.2.2.1,())
 else
 if r18.1.1=((2:Nat):Int) then
 (aah x14.2.2.2.2.1 ({ x14.2.1 with m:=r17.2.1 }:EnvP)).bind fun r20 =>
 some (r20.2.2.1,x14.2.2.1,x14.2.2.2.1,r20.2.1,x14.2.2.2.2.2.1,x14.2.2.2.2.2.2.1,())
 else
 if r18.1.1=((1:Nat):Int) then
 (aah x14.2.2.2.1 ({ x14.2.1 with m:=r17.2.1 }:EnvP)).bind fun r21 =>
 some (r21.2.2.1,x14.2.2.1,r21.2.1,x14.2.2.2.2.1,x14.2.2.2.2.2.1,x14.2.2.2.2.2.2.1,())
 else
 if r18.1.1=((0:Nat):Int) then
 (aah x14.2.2.1 ({ x14.2.1 with m:=r17.2.1 }:EnvP)).bind fun r22 =>
 some (r22.2.2.1,r22.2.1,x14.2.2.2.1,x14.2.2.2.2.1,x14.2.2.2.2.2.1,x14.2.2.2.2.2.2.1,())
 else
 none
 else
 if ((aoy l x14.1).kind)=1 then
 (adj x14.2.1.k).bind fun r23 =>
 some (({ x14.2.1 with m:=r17.2.1,k:=r23.2.1 }:EnvP),x14.2.2.1,x14.2.2.2.1,x14.2.2.2.2.1,x14.2.2.2.2.2.1,x14.2.2.2.2.2.2.1,())
 else
 if ((aoy l x14.1).kind)=2 then
 (adI x14.2.1.k ((aoy l x14.1).value)).bind fun r24 =>
 some (({ x14.2.1 with m:=r17.2.1,k:=r24.2.1 }:EnvP),x14.2.2.1,x14.2.2.2.1,x14.2.2.2.2.1,x14.2.2.2.2.2.1,x14.2.2.2.2.2.2.1,())
 else
 some (({ x14.2.1 with m:=r17.2.1 }:EnvP),x14.2.2.1,x14.2.2.2.1,x14.2.2.2.2.1,x14.2.2.2.2.2.1,x14.2.2.2.2.2.2.1,())
 ):Option (EnvP×(WorkerV MV)×(WorkerV MV)×(WorkerV MV)×(ClientV MV)×(Int×List Int×Int×Int×Int×Int×Unit)×Unit))
noncomputable def apa (l:List EntV) (self16:auN→Option (auN)) (x14:auN):Option (auN) :=
 if x14.1<((l.length:Nat):Int) then
 if 0≤x14.1∧x14.1<((l.length:Nat):Int) then
 (aaU x14.2.1.m).bind fun r17 =>
 (ao6 l x14 r17).bind fun z25 =>
 aj3 r17.1.1 z25.1 z25.2.2.2.2.2.1 (fun e g =>self16 (wi (x14.1+1),e,z25.2.1,z25.2.2.1,z25.2.2.2.1,z25.2.2.2.2.1,g,()))
 else none
 else
 some (x14.1,x14.2.1,x14.2.2.1,x14.2.2.2.1,x14.2.2.2.2.1,x14.2.2.2.2.2.1,x14.2.2.2.2.2.2.1,())
abbrev auM:=Int×EnvP×(WorkerV MV)×(WorkerV MV)×(WorkerV MV)×(WorkerV MV)×(ClientV MV)×(Int×List Int×Int×Int×Int×Int×Unit)×Unit
noncomputable def ao5 (l:List EntV) (x15:auM) (r18:(Int×Unit)×(MemV×Unit)) :=
 ((
 if ((aoy l x15.1).kind)=0 then
 (acw (aoy l x15.1) 5).bind fun r19 =>
 if r19.1.1=((4:Nat):Int) then
 (aap x15.2.2.2.2.2.2.1 ({ x15.2.1 with m:=r18.2.1 }:EnvP)).bind fun r20 =>
 some (r20.2.2.1,x15.2.2.1,x15.2.2.2.1,x15.2.2.2.2.1,x15.2.2.2.2.2.1,r20.2.1,x15.2.2.2.2.2.2.2.1,())
 else
 if r19.1.1=((3:Nat):Int) then
 (aah x15.2.2.2.2.2.1 ({ x15.2.1 with m:=r18.2.1 }:EnvP)).bind fun r21 =>
 some (r21.2.2.1,x15.2.2.1,x15.2.2.2.1,x15.2.2.2.2.1,r21.2.1,x15.2.2.2.2.2.2.1,x15.2.2.2.2.2.2.2.1,())
 else
 if r19.1.1=((2:Nat):Int) then
 (aah x15.2.2.2.2.1 ({ x15.2.1 with m:=r18.2.1 }:EnvP)).bind fun r22 =>
 some (r22.2.2.1,x15.2.2.1,x15.2.2.2.1,r22.2.1,x15.2.2.2.2.2.1,x15.2.2.2.2.2.2.1,x15.2.2.2.2.2.2.2.1,())
 else
 if r19.1.1=((1:Nat):Int) then
 (aah x15.2.2.2.1 ({ x15.2.1 with m:=r18.2.1 }:EnvP)).bind fun r23 =>
 some (r23.2.2.1,x15.2.2.1,r23.2.1,x15.2.2.2.2.1,x15.2.2.2.2.2.1,x15.2.2.2.2.2.2.1,x15.2.2.2.2.2.2.2.1,())
 else
 if r19.1.1=((0:Nat):Int) then
 (aah x15.2.2.1 ({ x15.2.1 with m:=r18.2.1 }:EnvP)).bind fun r24 =>
 some (r24.2.2.1,r24.2.1,x15.2.2.2.1,x15.2.2.2.2.1,x15.2.2.2.2.2.1,x15.2.2.2.2.2.2.1,x15.2.2.2.2.2.2.2.1,())
 else
 none
 else
 if ((aoy l x15.1).kind)=1 then
 (adj x15.2.1.k).bind fun r25 =>
 some (({ x15.2.1 with m:=r18.2.1,k:=r25.2.1 }:EnvP),x15.2.2.1,x15.2.2.2.1,x15.2.2.2.2.1,x15.2.2.2.2.2.1,x15.2.2.2.2.2.2.1,x15.2.2.2.2.2.2.2.1,())
 else
 if ((aoy l x15.1).kind)=2 then
 (adI x15.2.1.k ((aoy l x15.1).value)).bind fun r26 =>
 some (({ x15.2.1 with m:=r18.2.1,k:=r26.2.1 }:EnvP),x15.2.2.1,x15.2.2.2.1,x15.2.2.2.2.1,x15.2.2.2.2.2.1,x15.2.2.2.2.2.2.1,x15.2.2.2.2.2.2.2.1,())
 else
 some (({ x15.2.1 with m:=r18.2.1 }:EnvP),x15.2.2.1,x15.2.2.2.1,x15.2.2.2.2.1,x15.2.2.2.2.2.1,x15.2.2.2.2.2.2.1,x15.2.2.2.2.2.2.2.1,())
 ):Option (EnvP×(WorkerV MV)×(WorkerV MV)×(WorkerV MV)×(WorkerV MV)×(ClientV MV)×(Int×List Int×Int×Int×Int×Int×Unit)×Unit))
noncomputable def ao9 (l:List EntV) (self17:auM→Option (auM)) (x15:auM):Option (auM) :=
 if x15.1<((l.length:Nat):Int) then
 if 0≤x15.1∧x15.1<((l.length:Nat):Int) then
 (aaU x15.2.1.m).bind fun r18 =>
 (ao5 l x15 r18).bind fun z27 =>
 aj3 r18.1.1 z27.1 z27.2.2.2.2.2.2.1 (fun e g =>self17 (wi (x15.1+1),e,z27.2.1,z27.2.2.1,z27.2.2.2.1,z27.2.2.2.2.1,z27.2.2.2.2.2.1,g,()))
 else none
 else
 some (x15.1,x15.2.1,x15.2.2.1,x15.2.2.2.1,x15.2.2.2.2.1,x15.2.2.2.2.2.1,x15.2.2.2.2.2.2.1,x15.2.2.2.2.2.2.2.1,())
abbrev aIv:=Int×List St×aqE×Unit
noncomputable def aFV (evs:List Ev) (self:aIv→Option aIv) (x:aIv):Option aIv :=
 if x.1<((evs.length:Nat):Int) then
 if 0≤x.1∧x.1<((evs.length:Nat):Int) then
 if 0≤x.1∧x.1<((x.2.2.1.2.1.length:Nat):Int) then
 if (((x.2.1.length+([(⟨ahz x.2.2.1.2.1 x.1,axL evs x.1⟩:St)]:List St).length:Nat)):Int)<1000000000000 then
 self (wi (x.1+1),x.2.1++([(⟨ahz x.2.2.1.2.1 x.1,axL evs x.1⟩:St)]),x.2.2.1,())
 else none
 else none
 else none
 else some x
structure EG (N:Nat) (e:EnvP) (g:aqE):Prop where
 n:g.1=(N:Int)
 l:g.2.1.length=e.evs.length
 r:∀ s∈g.2.1,0≤s∧s<(N:Int)
 s:g.2.1.Pairwise (·≤·)
theorem apm {N:Nat} {env:EnvP} {eng:aqE} (F:(EnvP×aqE×Unit→Option (EnvP×aqE×Unit))→EnvP×aqE×Unit→Option (EnvP×aqE×Unit))
  (hF:∀ self x,F self x=if ((x.2.1.2.1.length:Nat):Int)<((x.1.evs.length:Nat):Int) then
    if (((x.2.1.2.1.length+([x.2.1.1]:List Int).length:Nat)):Int)<1000000000000 then self (x.1,(x.2.1.1,x.2.1.2.1++([x.2.1.1]),x.2.1.2.2.1,x.2.1.2.2.2.1,x.2.1.2.2.2.2.1,x.2.1.2.2.2.2.2.1,()),()) else none
   else some (x.1,(x.2.1.1,x.2.1.2.1,x.2.1.2.2.1,x.2.1.2.2.2.1,x.2.1.2.2.2.2.1,x.2.1.2.2.2.2.2.1,()),()))
  (hn:eng.1=(N:Int)) (h:eng.2.1.length≤env.evs.length) (he:env.evs.length≤999999999) (hr:∀ s∈eng.2.1,0≤s∧s<(N:Int)) (hs:eng.2.1.Pairwise (·≤·)) :
  aaP (lpF F 18446744073709551616 (env,eng,())) fun z =>z.1=env∧z.2.1.1=(N:Int)∧z.2.1.2.1.length=env.evs.length∧(∀ s∈z.2.1.2.1,0≤s∧s<(N:Int)+1)∧z.2.1.2.1.Pairwise (·≤·):=by
 refine acx (fun x =>x.1=env∧x.2.1.1=(N:Int)∧x.2.1.2.1.length≤env.evs.length∧(∀ s∈x.2.1.2.1,0≤s∧s<(N:Int)+1)∧x.2.1.2.1.Pairwise (·≤·)) (fun x =>env.evs.length-x.2.1.2.1.length) (fun self x hx ih =>?_) _ _ ⟨rfl,hn,h,fun s k =>by have:=hr s k; omega,hs⟩ (by show env.evs.length-_<_; omega)
 obtain ⟨e,⟨n,st,a,b,c,d,⟨⟩⟩,⟨⟩⟩:=x
 obtain ⟨h1,h2,h3,h4,h5⟩:=hx
 simp only at h1 h2 h3 h4 h5
 subst h1
 subst h2
 rw [hF]
 refine aaP.ite (fun hlt =>?_) fun hge =>.some_ ⟨rfl,rfl,?_,h4,h5⟩
 ·have hlt:((st.length:Nat):Int)<((e.evs.length:Nat):Int):=hlt
  refine aaP.guard (by simp only [List.length_singleton]; omega) fun _ =>?_
  refine ih _ ⟨rfl,rfl,?_,?_,?_⟩ ?_
  ·show (st++[(N:Int)]).length≤_
   rw [List.length_append,List.length_singleton]
   omega
  ·intro s hs
   rcases List.mem_append.1 hs with k | k
   ·exact h4 s k
   ·have k2:s=(N:Int):=List.mem_singleton.1 k
    omega
  ·show (st++[(N:Int)]).Pairwise (·≤·)
   rw [List.pairwise_append]
   exact ⟨h5,by simp,fun x hx y hy =>by rw [List.mem_singleton.1 hy]; have:=h4 x hx; omega⟩
  ·show e.evs.length-(st++[(N:Int)]).length<e.evs.length-st.length
   rw [List.length_append,List.length_singleton]
   omega
 ·have hge:¬ ((st.length:Nat):Int)<((e.evs.length:Nat):Int):=hge
  show st.length=e.evs.length
  have h3:st.length≤e.evs.length:=h3
  omega
theorem av5 {σ:Type} {N:Nat} {c0:Int} {env e0:EnvP} {eng:aqE} {self:EnvP→aqE→Option σ} {P:σ→Prop}
  (hg:EG N e0 eng) (hev:∃ l,env.evs=e0.evs++l) (he:env.evs.length≤999999999) (hN:N≤1000000)
  (hs:∀ eng':aqE,EG (N+1) env (wi (eng'.1+1),eng'.2)→aaP (self env (wi (eng'.1+1),eng'.2.1,eng'.2.2.1,eng'.2.2.2.1,eng'.2.2.2.2.1,eng'.2.2.2.2.2.1,())) P):aaP (aj3 c0 env eng self) P:=by
 obtain ⟨l,hl⟩:=hev
 have hle:eng.2.1.length≤env.evs.length:=by rw [hg.l,hl,List.length_append]; omega
 have fin:∀ z:EnvP×aqE×Unit,(z.1=env∧z.2.1.1=(N:Int)∧z.2.1.2.1.length=env.evs.length∧(∀ s∈z.2.1.2.1,0≤s∧s<(N:Int)+1)∧z.2.1.2.1.Pairwise (·≤·))→aaP (self z.1 (wi (z.2.1.1+1),z.2.1.2.1,z.2.1.2.2.1,z.2.1.2.2.2.1,z.2.1.2.2.2.2.1,z.2.1.2.2.2.2.2.1,())) P:=fun z hz =>by
  obtain ⟨z1,z2,z3,z4,z5⟩:=hz
  rw [z1]
  refine hs z.2.1 ⟨?_,z3,fun s k =>?_,z5⟩
  ·show wi (z.2.1.1+1)=_
   rw [z2,aaw (aai (by omega))]; omega
  ·have:=z4 s k; omega
 unfold aj3
 rw [ams,bnd]
 refine aaP.ite (fun _ =>?_) fun _ =>?_
 ·rw [aER,bnd]
  exact aaP.bind (apm _ (fun _ _ =>rfl) hg.n (by exact hle) (by exact he) hg.r hg.s) fin
 ·exact aaP.bind (apm _ (fun _ _ =>rfl) hg.n (by exact hle) (by exact he) hg.r hg.s) fin
def stF (s:Int) (v:Ev):St:=⟨s,v⟩
theorem aoQ {evs:List Ev} {g:aqE} (h1:g.2.1.length=evs.length) (h2:evs.length≤999999999):aaP (lpF (aFV evs) 18446744073709551616 (0,[],g,())) fun z =>z.2.1=List.zipWith stF g.2.1 evs∧z.2.2.1=g:=by
 have hl:(List.zipWith stF g.2.1 evs).length=evs.length:=by rw [List.length_zipWith,h1]; omega
 refine (acx (fun x =>0≤x.1∧x.1≤(evs.length:Int)∧x.2.1=(List.zipWith stF g.2.1 evs).take x.1.toNat∧x.2.2.1=g) (fun x =>((evs.length:Int)-x.1).toNat) (fun self x hx ih =>?_) _ _ ⟨Int.le_refl 0,by show (0:Int)≤_; omega,rfl,rfl⟩ (by show ((evs.length:Int)-0).toNat<_; omega))
 obtain ⟨i,l,g',⟨⟩⟩:=x
 obtain ⟨q1,q2,q3,q4⟩:=hx
 simp only at q1 q2 q3 q4
 subst q4
 have e1:wi (i+1)=i+1:=aaw (aai (by omega))
 unfold aFV
 refine aaP.ite (fun hlt =>?_) fun hge =>.some_ ⟨?_,rfl⟩
 ·have hlt:i<(evs.length:Int):=hlt
  have hll:l.length≤evs.length:=by rw [q3,List.length_take]; omega
  refine .guard ⟨q1,hlt⟩ fun _ =>.guard (by show 0≤i∧i<((g'.2.1.length:Nat):Int); omega) fun _ =>.guard (by simp only [List.length_singleton]; omega) fun _ =>?_
  show aaP (self (wi (i+1),_)) _
  rw [e1]
  refine ih _ ⟨by show 0≤i+1; omega,by show i+1≤_; omega,?_,rfl⟩ (by show (_-(i+1):Int).toNat<(_-i:Int).toNat; omega)
  show l++[_]=_
  have e2:(i+1).toNat=i.toNat+1:=by omega
  have hi:i.toNat<(List.zipWith stF g'.2.1 evs).length:=by omega
  rw [q3,e2,List.take_succ_eq_append_getElem hi,List.getElem_zipWith]
  have k1:ahz g'.2.1 i=g'.2.1[i.toNat]'(by omega):=by
   have:=aeL (α:=Int) (d:=(dfR 1:TR 1)) (xs:=g'.2.1) (i:=i) ⟨q1,by have h1:g'.2.1.length=evs.length:=h1; have hlt:i<(evs.length:Int):=hlt; omega⟩
   rw [List.getElem?_eq_getElem (by omega)] at this
   exact (Option.some.inj this).symm
  have k2:axL evs i=evs[i.toNat]'(by omega):=by
   have:=aeL (α:=Ev) (d:=(dfR 2:TR 2)) (xs:=evs) (i:=i) ⟨q1,hlt⟩
   rw [List.getElem?_eq_getElem (by omega)] at this
   exact (Option.some.inj this).symm
  show _++[(⟨ahz g'.2.1 i,axL evs i⟩:St)]=_
  rw [k1,k2]; rfl
 ·have hge:¬ i<(evs.length:Int):=hge
  show l=_
  rw [q3,List.take_of_length_le (by omega)]
theorem aGD {b:List Int} (hb:b.length≤1000000):aaP (aoH b) fun o =>o.1.1.length≤65536:=by
 unfold aoH
 refine aaP.bind (P:=fun z =>z.1.length≤65536) (acx (fun x =>0≤x.2.1∧x.2.1≤(b.length:Int)+2∧x.1.length≤65536) (fun x =>((b.length:Int)+2-x.2.1).toNat) (fun self x ⟨q0,q1,q2⟩ ih =>?_) _ _ ⟨Int.le_refl 0,by show (0:Int)≤(b.length:Int)+2; omega,Nat.zero_le _⟩ (by show ((b.length:Int)+2-0).toNat<_; omega)) fun z hz =>.some_ hz
 have e1:wi (x.2.1+1)=x.2.1+1:=aaw (aai (by omega))
 have e2:wi (x.2.1+2)=x.2.1+2:=aaw (aai (by omega))
 rw [e1,e2]
 refine aaP.ite (fun h1 =>aaP.ite (fun h2 =>.guard (by omega) fun _ =>.guard (by omega) fun _ =>.guard rfl fun _ =>.guard rfl fun _ =>?_) fun _ =>.some_ q2) fun _ =>.some_ q2
 have nx:∀ u:EntV,aaP (self (x.1++[u],x.2.1+2,())) fun z =>z.1.length≤65536:=fun u =>ih _ ⟨by show 0≤x.2.1+2; omega,by show x.2.1+2≤(b.length:Int)+2; omega,by simp; omega⟩ (by show ((b.length:Int)+2-(x.2.1+2)).toNat<((b.length:Int)+2-x.2.1).toNat; omega)
 refine aaP.ite (fun _ =>.guard (by simp; omega) fun _ =>nx _) fun _ =>aaP.ite (fun _ =>.guard (by simp; omega) fun _ =>nx _) fun _ =>.guard (by simp; omega) fun _ =>nx _
theorem aj5 {b:List Int} {n:Int} (hb:b.length≤1000000) (hn:0≤n):aaP (ag2 b n) fun o =>o.1.1.length≤n.toNat:=by
 unfold ag2
 refine (aGD hb).bind fun r hr =>aaP.ite (fun h =>.guard (by omega) fun _ =>.some_ (by show (r.1.1.take n.toNat).length≤n.toNat; simp; omega)) fun h =>.some_ (by show r.1.1.length≤n.toNat; omega)
theorem azW {x k:Int} (hk:1≤k∧k≤1000000):aaP (ac6 x k) fun o =>0≤o.1.1∧o.1.1<k:=by
 have h1:Int.tmod x k<k ∧ -k<Int.tmod x k:=by
  constructor
  ·exact Int.tmod_lt_of_pos _ (by omega)
  ·have h2:Int.tmod (-x) k<k:=Int.tmod_lt_of_pos _ (by omega)
   rw [Int.neg_tmod] at h2
   omega
 unfold ac6
 rw [if_neg (by omega),if_pos (by omega)]
 refine aaP.ite (fun hl =>?_) fun hl =>?_
 ·rw [if_pos (by omega),aaw (aai (by omega))]
  exact .some_ ⟨by show 0≤Int.tmod x k+k; omega,by show Int.tmod x k+k<k; omega⟩
 ·rw [if_pos (by omega)]
  exact .some_ ⟨by show 0≤Int.tmod x k; omega,h1.1⟩
theorem ag1 {l:List Int} {i k:Int} (hl:l.length≤1000000) (hi:0≤i∧i≤1000000) (hk:1≤k∧k≤1000000):aaP (aaQ l i k) fun o =>0≤o.1.1∧o.1.1<k:=by
 unfold aaQ
 refine aaP.ite (fun h =>.some_ ⟨Int.le_refl 0,by show (0:Int)<k; omega⟩) fun h =>?_
 have h0:(0:Int)<((l.length:Nat):Int):=by omega
 have h1:=arw (a:=i) (b:=((l.length:Nat):Int)) (by omega) hi.1
 have h2:0≤Int.tdiv i ((l.length:Nat):Int):=Int.tdiv_nonneg hi.1 (by omega)
 have h3:Int.tdiv i ((l.length:Nat):Int)≤1000000:=Int.le_trans (Int.tdiv_le_self _ hi.1) hi.2
 have h4:=arw (a:=Int.tdiv i ((l.length:Nat):Int)) (b:=7) (by decide) h2
 rw [aaw (x:=Int.tdiv i ((l.length:Nat):Int)) (aai (by omega)),aaw (x:=1+Int.tmod (Int.tdiv i ((l.length:Nat):Int)) 7) (aai (by omega))]
 refine .guard (by omega) fun _ =>.guard h1 fun _ =>.guard (by omega) fun _ =>.guard (by omega) fun _ =>?_
 exact (azW hk).bind fun r hr =>.some_ hr
theorem ank {l:List EntV} {x:EntV} {i:Int} (hl:l.length≤1000000) (hi:0≤i∧i≤(l.length:Int)):aaP (ab0 l x i) fun o =>o.1.1.length=l.length+1:=by
 have ht:(l.take i.toNat).length=i.toNat:=by rw [List.length_take]; omega
 have hd:(l.drop i.toNat).length=l.length-i.toNat:=by rw [List.length_drop]
 unfold ab0
 refine .guard hi fun _ =>.guard (by rw [ht]; show ((0+i.toNat:Nat):Int)<_; omega) fun _ =>.guard (by simp only [List.nil_append,ht,List.length_singleton]; omega) fun _ =>.guard hi fun _ =>.guard (by simp only [List.nil_append,List.length_append,ht,hd,List.length_singleton]; omega) fun _ =>.some_ ?_
 show ((([]++l.take i.toNat)++[x])++l.drop i.toNat).length=_
 simp only [List.nil_append,List.length_append,ht,hd,List.length_singleton]
 omega
theorem ayv {l:List Int} {a k:Int} (hl:l.length≤1000000) (ha:0≤a∧a≤10000) (hk:1≤k∧k≤100):aaP (adT l a k) fun o =>o.1.1.length≤200:=by
 unfold adT
 refine aaP.bind (P:=fun z =>(z.1.length:Int)=k) (acx (fun x =>0≤x.2.1∧x.2.1≤k∧(x.1.length:Int)=x.2.1) (fun x =>(k-x.2.1).toNat) (fun self x ⟨q0,q1,q2⟩ ih =>?istep) _ _ ⟨Int.le_refl 0,by show (0:Int)≤k; omega,rfl⟩ (by show (k-0).toNat<_; omega)) fun z hz =>?icont
 case istep =>
  have e1:wi (x.2.1+1)=x.2.1+1:=aaw (aai (by omega))
  have e2:wi (a+x.2.1)=a+x.2.1:=aaw (aai (by omega))
  refine aaP.ite (fun hlt =>?_) fun hge =>.some_ (by show (x.1.length:Int)=k; omega)
  rw [e1,e2]
  show aaP ((aaQ l (a+x.2.1) (x.2.1+1)).bind _) _
  refine (ag1 hl (by omega) (by omega)).bind fun r hr =>?_
  refine (ank (by omega) ⟨hr.1,by omega⟩).bind fun s hs =>ih _ ⟨by show 0≤x.2.1+1; omega,by show x.2.1+1≤k; omega,by show (s.1.1.length:Int)=x.2.1+1; omega⟩ (by show (k-(x.2.1+1)).toNat<(k-x.2.1).toNat; omega)
 case icont =>
  have e3:wi (a+k)=a+k:=aaw (aai (by omega))
  have e4:wi (k+1)=k+1:=aaw (aai (by omega))
  have e5:wi (a+k+1)=a+k+1:=aaw (aai (by omega))
  rw [e3,e4]
  refine (ag1 hl (by omega) (by omega)).bind fun r7 h7 =>?_
  refine (ank (by omega) ⟨h7.1,by omega⟩).bind fun r8 h8 =>?_
  rw [e5]
  refine (ag1 (k:=3) hl (by omega) (by decide)).bind fun r9 h9 =>?_
  refine aaP.bind (P:=fun z =>z.1.length≤200) (acx (fun x =>0≤x.2.1∧x.2.1≤2∧(x.1.length:Int)+x.2.1≤k+3) (fun x =>x.2.1.toNat) (fun self x ⟨q0,q1,q2⟩ ih =>?_) _ _ ⟨h9.1,by show r9.1.1≤2; omega,by show (r8.1.1.length:Int)+r9.1.1≤k+3; omega⟩ (by show r9.1.1.toNat<_; omega)) fun z hz =>.some_ hz
  have e6:wi (a+k+x.2.1)=a+k+x.2.1:=aaw (aai (by omega))
  have e7:wi (a+x.2.1)=a+x.2.1:=aaw (aai (by omega))
  have e8:wi (x.2.1-1)=x.2.1-1:=aaw (aai (by omega))
  have e9:wi (((x.1.length:Nat):Int)+1)=((x.1.length:Nat):Int)+1:=aaw (aai (by omega))
  refine aaP.ite (fun hlt =>?_) fun _ =>.some_ (by show x.1.length≤200; omega)
  rw [e6,e7,e8,e9]
  refine (ag1 hl (by omega) (by omega)).bind fun r13 h13 =>?_
  show aaP ((aaQ l (a+x.2.1) (((x.1.length:Nat):Int)+1)).bind _) _
  refine (ag1 hl (by omega) (by omega)).bind fun r15 h15 =>?_
  refine (ank (by omega) ⟨h15.1,by omega⟩).bind fun r16 h16 =>ih _ ⟨by show 0≤x.2.1-1; omega,by show x.2.1-1≤2; omega,by show (r16.1.1.length:Int)+(x.2.1-1)≤k+3; omega⟩ (by show (x.2.1-1).toNat<x.2.1.toNat; omega)
theorem aHD {c:Cfg} {I:Nat→EnvP→List (WorkerV MV)→ClientV MV→Prop} (hI:EngI c I) {N:Nat} {env:EnvP} {w0:WorkerV MV} {cl:ClientV MV} {eng:aqE} {i:Int} {l:List EntV} (h:I N env [w0] cl) (hN:N≤100000) :
  aaP (ao8 l (i,env,w0,cl,eng,()) ((env.m.count,()),(env.m,()))) fun z =>I (N+1) z.1 [z.2.1] z.2.2.1∧z.2.2.2.1=eng∧∃ l,z.1.evs=env.evs++l:=by
 unfold ao8
 refine aaP.ite (fun hk =>?_) fun hk =>aaP.ite (fun _ =>?_) fun _ =>aaP.ite (fun _ =>?_) fun _ =>?_
 ·refine (al9 (n:=2) (by decide) hk).bind fun o ho =>?_
  refine aaP.ite (fun _ =>?_) fun n1 =>aaP.ite (fun _ =>?_) fun n0 =>?_
  ·exact (hI.c h hN).bind fun o ho =>.some_ ⟨ho.1,rfl,ho.2⟩
  ·exact (hI.w h hN (j:=0) rfl).bind fun o ho =>.some_ ⟨ho.1,rfl,ho.2⟩
  ·exfalso; have m0:¬ o.1.1=((0:Nat):Int):=n0; have m1:¬ o.1.1=((1:Nat):Int):=n1; omega
 ·exact ⟨_,rfl,hI.n (hI.k h),rfl,[],by simp⟩
 ·exact ⟨_,rfl,hI.n (hI.k h),rfl,[],by simp⟩
 ·exact ⟨_,rfl,hI.n h,rfl,[],by simp⟩
theorem aHz {c:Cfg} {I:Nat→EnvP→List (WorkerV MV)→ClientV MV→Prop} (hI:EngI c I) {N:Nat} {env:EnvP} {w0:WorkerV MV} {cl:ClientV MV} {eng:aqE} {l:List EntV} (h:I N env [w0] cl) (hg:EG N env eng) (hN:N+l.length≤100000) :
  aaP (lpF (apc l) 18446744073709551616 (0,env,w0,cl,eng,())) fun z =>I (N+l.length) z.2.1 [z.2.2.1] z.2.2.2.1∧EG (N+l.length) z.2.1 z.2.2.2.2.1∧∃ m,z.2.1.evs=env.evs++m:=by
 refine acx (fun x =>0≤x.1∧x.1≤(l.length:Int)∧I (N+x.1.toNat) x.2.1 [x.2.2.1] x.2.2.2.1∧EG (N+x.1.toNat) x.2.1 x.2.2.2.2.1∧∃ m,x.2.1.evs=env.evs++m) (fun x =>(l.length:Int).toNat-x.1.toNat) (fun self x hx ih =>?_) _ _ ?init (by show (l.length:Int).toNat-0<_; omega)
 case init =>exact ⟨Int.le_refl 0,by show (0:Int)≤_; omega,h,hg,[],by simp⟩
 obtain ⟨i,en2,w0,cl,eng,⟨⟩⟩:=x
 obtain ⟨q1,q2,h,hg,m0,hm⟩:=hx
 simp only at q1 q2 h hg hm
 unfold apc
 refine aaP.ite (fun hlt =>?_) fun hge =>.some_ ?iend
 case iend =>
  have hge:¬ i<(l.length:Int):=hge
  have:i.toNat=l.length:=by omega
  rw [this] at h hg
  exact ⟨h,hg,m0,hm⟩
 have hlt:i<(l.length:Int):=hlt
 refine aaP.guard ⟨q1,hlt⟩ fun _ =>?_
 rw [ams,bnd]
 refine (aHD hI (i:=i) (l:=l) (eng:=eng) h (by omega)).bind fun z hz =>?_
 obtain ⟨ze,z0,zc,zg,⟨⟩⟩:=z
 obtain ⟨a3,ag,m1,hm1⟩:=hz
 simp only at a3 ag hm1
 subst ag
 have hev:=hI.ev a3
 refine av5 hg ⟨m1,hm1⟩ (by show ze.evs.length≤_; omega) (by omega) fun eng2 he =>?_
 have ei:wi (i+1)=i+1:=aaw (aai (by omega))
 have en:N+i.toNat+1=N+(i+1).toNat:=by omega
 rw [en] at a3 he
 show aaP (self (wi (i+1),ze,z0,zc,_,())) _
 rw [ei]
 exact ih _ ⟨by show 0≤i+1; omega,by show i+1≤_; omega,a3,he,m0++m1,by show ze.evs=_; rw [hm1,hm,List.append_assoc]⟩ (by show _-(i+1).toNat<_-i.toNat; omega)
theorem aHC {c:Cfg} {I:Nat→EnvP→List (WorkerV MV)→ClientV MV→Prop} (hI:EngI c I) {N:Nat} {env:EnvP} {w0 w1:WorkerV MV} {cl:ClientV MV} {eng:aqE} {i:Int} {l:List EntV} (h:I N env [w0,w1] cl) (hN:N≤100000) :
  aaP (ao7 l (i,env,w0,w1,cl,eng,()) ((env.m.count,()),(env.m,()))) fun z =>I (N+1) z.1 [z.2.1,z.2.2.1] z.2.2.2.1∧z.2.2.2.2.1=eng∧∃ l,z.1.evs=env.evs++l:=by
 unfold ao7
 refine aaP.ite (fun hk =>?_) fun hk =>aaP.ite (fun _ =>?_) fun _ =>aaP.ite (fun _ =>?_) fun _ =>?_
 ·refine (al9 (n:=3) (by decide) hk).bind fun o ho =>?_
  refine aaP.ite (fun _ =>?_) fun n2 =>aaP.ite (fun _ =>?_) fun n1 =>aaP.ite (fun _ =>?_) fun n0 =>?_
  ·exact (hI.c h hN).bind fun o ho =>.some_ ⟨ho.1,rfl,ho.2⟩
  ·exact (hI.w h hN (j:=1) rfl).bind fun o ho =>.some_ ⟨ho.1,rfl,ho.2⟩
  ·exact (hI.w h hN (j:=0) rfl).bind fun o ho =>.some_ ⟨ho.1,rfl,ho.2⟩
  ·exfalso; have m0:¬ o.1.1=((0:Nat):Int):=n0; have m1:¬ o.1.1=((1:Nat):Int):=n1; have m2:¬ o.1.1=((2:Nat):Int):=n2; omega
 ·exact ⟨_,rfl,hI.n (hI.k h),rfl,[],by simp⟩
 ·exact ⟨_,rfl,hI.n (hI.k h),rfl,[],by simp⟩
 ·exact ⟨_,rfl,hI.n h,rfl,[],by simp⟩
theorem aHy {c:Cfg} {I:Nat→EnvP→List (WorkerV MV)→ClientV MV→Prop} (hI:EngI c I) {N:Nat} {env:EnvP} {w0 w1:WorkerV MV} {cl:ClientV MV} {eng:aqE} {l:List EntV} (h:I N env [w0,w1] cl) (hg:EG N env eng) (hN:N+l.length≤100000) :
  aaP (lpF (apb l) 18446744073709551616 (0,env,w0,w1,cl,eng,())) fun z =>I (N+l.length) z.2.1 [z.2.2.1,z.2.2.2.1] z.2.2.2.2.1∧EG (N+l.length) z.2.1 z.2.2.2.2.2.1∧∃ m,z.2.1.evs=env.evs++m:=by
 refine acx (fun x =>0≤x.1∧x.1≤(l.length:Int)∧I (N+x.1.toNat) x.2.1 [x.2.2.1,x.2.2.2.1] x.2.2.2.2.1∧EG (N+x.1.toNat) x.2.1 x.2.2.2.2.2.1∧∃ m,x.2.1.evs=env.evs++m) (fun x =>(l.length:Int).toNat-x.1.toNat) (fun self x hx ih =>?_) _ _ ?init (by show (l.length:Int).toNat-0<_; omega)
 case init =>exact ⟨Int.le_refl 0,by show (0:Int)≤_; omega,h,hg,[],by simp⟩
 obtain ⟨i,en2,w0,w1,cl,eng,⟨⟩⟩:=x
 obtain ⟨q1,q2,h,hg,m0,hm⟩:=hx
 simp only at q1 q2 h hg hm
 unfold apb
 refine aaP.ite (fun hlt =>?_) fun hge =>.some_ ?iend
 case iend =>
  have hge:¬ i<(l.length:Int):=hge
  have:i.toNat=l.length:=by omega
  rw [this] at h hg
  exact ⟨h,hg,m0,hm⟩
 have hlt:i<(l.length:Int):=hlt
 refine aaP.guard ⟨q1,hlt⟩ fun _ =>?_
 rw [ams,bnd]
 refine (aHC hI (i:=i) (l:=l) (eng:=eng) h (by omega)).bind fun z hz =>?_
 obtain ⟨ze,z0,z1,zc,zg,⟨⟩⟩:=z
 obtain ⟨a3,ag,m1,hm1⟩:=hz
 simp only at a3 ag hm1
 subst ag
 have hev:=hI.ev a3
 refine av5 hg ⟨m1,hm1⟩ (by show ze.evs.length≤_; omega) (by omega) fun eng2 he =>?_
 have ei:wi (i+1)=i+1:=aaw (aai (by omega))
 have en:N+i.toNat+1=N+(i+1).toNat:=by omega
 rw [en] at a3 he
 show aaP (self (wi (i+1),ze,z0,z1,zc,_,())) _
 rw [ei]
 exact ih _ ⟨by show 0≤i+1; omega,by show i+1≤_; omega,a3,he,m0++m1,by show ze.evs=_; rw [hm1,hm,List.append_assoc]⟩ (by show _-(i+1).toNat<_-i.toNat; omega)
theorem aHB {c:Cfg} {I:Nat→EnvP→List (WorkerV MV)→ClientV MV→Prop} (hI:EngI c I) {N:Nat} {env:EnvP} {w0 w1 w2:WorkerV MV} {cl:ClientV MV} {eng:aqE} {i:Int} {l:List EntV} (h:I N env [w0,w1,w2] cl) (hN:N≤100000) :
  aaP (ao6 l (i,env,w0,w1,w2,cl,eng,()) ((env.m.count,()),(env.m,()))) fun z =>I (N+1) z.1 [z.2.1,z.2.2.1,z.2.2.2.1] z.2.2.2.2.1∧z.2.2.2.2.2.1=eng∧∃ l,z.1.evs=env.evs++l:=by
 unfold ao6
 refine aaP.ite (fun hk =>?_) fun hk =>aaP.ite (fun _ =>?_) fun _ =>aaP.ite (fun _ =>?_) fun _ =>?_
 ·refine (al9 (n:=4) (by decide) hk).bind fun o ho =>?_
  refine aaP.ite (fun _ =>?_) fun n3 =>aaP.ite (fun _ =>?_) fun n2 =>aaP.ite (fun _ =>?_) fun n1 =>aaP.ite (fun _ =>?_) fun n0 =>?_
  ·exact (hI.c h hN).bind fun o ho =>.some_ ⟨ho.1,rfl,ho.2⟩
  ·exact (hI.w h hN (j:=2) rfl).bind fun o ho =>.some_ ⟨ho.1,rfl,ho.2⟩
  ·exact (hI.w h hN (j:=1) rfl).bind fun o ho =>.some_ ⟨ho.1,rfl,ho.2⟩
  ·exact (hI.w h hN (j:=0) rfl).bind fun o ho =>.some_ ⟨ho.1,rfl,ho.2⟩
  ·exfalso; have m0:¬ o.1.1=((0:Nat):Int):=n0; have m1:¬ o.1.1=((1:Nat):Int):=n1; have m2:¬ o.1.1=((2:Nat):Int):=n2; have m3:¬ o.1.1=((3:Nat):Int):=n3; omega
 ·exact ⟨_,rfl,hI.n (hI.k h),rfl,[],by simp⟩
 ·exact ⟨_,rfl,hI.n (hI.k h),rfl,[],by simp⟩
 ·exact ⟨_,rfl,hI.n h,rfl,[],by simp⟩
theorem aHx {c:Cfg} {I:Nat→EnvP→List (WorkerV MV)→ClientV MV→Prop} (hI:EngI c I) {N:Nat} {env:EnvP} {w0 w1 w2:WorkerV MV} {cl:ClientV MV} {eng:aqE} {l:List EntV} (h:I N env [w0,w1,w2] cl) (hg:EG N env eng) (hN:N+l.length≤100000) :
  aaP (lpF (apa l) 18446744073709551616 (0,env,w0,w1,w2,cl,eng,())) fun z =>I (N+l.length) z.2.1 [z.2.2.1,z.2.2.2.1,z.2.2.2.2.1] z.2.2.2.2.2.1∧EG (N+l.length) z.2.1 z.2.2.2.2.2.2.1∧∃ m,z.2.1.evs=env.evs++m:=by
 refine acx (fun x =>0≤x.1∧x.1≤(l.length:Int)∧I (N+x.1.toNat) x.2.1 [x.2.2.1,x.2.2.2.1,x.2.2.2.2.1] x.2.2.2.2.2.1∧EG (N+x.1.toNat) x.2.1 x.2.2.2.2.2.2.1∧∃ m,x.2.1.evs=env.evs++m) (fun x =>(l.length:Int).toNat-x.1.toNat) (fun self x hx ih =>?_) _ _ ?init (by show (l.length:Int).toNat-0<_; omega)
 case init =>exact ⟨Int.le_refl 0,by show (0:Int)≤_; omega,h,hg,[],by simp⟩
 obtain ⟨i,en2,w0,w1,w2,cl,eng,⟨⟩⟩:=x
 obtain ⟨q1,q2,h,hg,m0,hm⟩:=hx
 simp only at q1 q2 h hg hm
 unfold apa
 refine aaP.ite (fun hlt =>?_) fun hge =>.some_ ?iend
 case iend =>
  have hge:¬ i<(l.length:Int):=hge
  have:i.toNat=l.length:=by omega
  rw [this] at h hg
  exact ⟨h,hg,m0,hm⟩
 have hlt:i<(l.length:Int):=hlt
 refine aaP.guard ⟨q1,hlt⟩ fun _ =>?_
 rw [ams,bnd]
 refine (aHB hI (i:=i) (l:=l) (eng:=eng) h (by omega)).bind fun z hz =>?_
 obtain ⟨ze,z0,z1,z2,zc,zg,⟨⟩⟩:=z
 obtain ⟨a3,ag,m1,hm1⟩:=hz
 simp only at a3 ag hm1
 subst ag
 have hev:=hI.ev a3
 refine av5 hg ⟨m1,hm1⟩ (by show ze.evs.length≤_; omega) (by omega) fun eng2 he =>?_
 have ei:wi (i+1)=i+1:=aaw (aai (by omega))
 have en:N+i.toNat+1=N+(i+1).toNat:=by omega
 rw [en] at a3 he
 show aaP (self (wi (i+1),ze,z0,z1,z2,zc,_,())) _
 rw [ei]
 exact ih _ ⟨by show 0≤i+1; omega,by show i+1≤_; omega,a3,he,m0++m1,by show ze.evs=_; rw [hm1,hm,List.append_assoc]⟩ (by show _-(i+1).toNat<_-i.toNat; omega)
theorem aHA {c:Cfg} {I:Nat→EnvP→List (WorkerV MV)→ClientV MV→Prop} (hI:EngI c I) {N:Nat} {env:EnvP} {w0 w1 w2 w3:WorkerV MV} {cl:ClientV MV} {eng:aqE} {i:Int} {l:List EntV} (h:I N env [w0,w1,w2,w3] cl) (hN:N≤100000) :
  aaP (ao5 l (i,env,w0,w1,w2,w3,cl,eng,()) ((env.m.count,()),(env.m,()))) fun z =>I (N+1) z.1 [z.2.1,z.2.2.1,z.2.2.2.1,z.2.2.2.2.1] z.2.2.2.2.2.1∧z.2.2.2.2.2.2.1=eng∧∃ l,z.1.evs=env.evs++l:=by
 unfold ao5
 refine aaP.ite (fun hk =>?_) fun hk =>aaP.ite (fun _ =>?_) fun _ =>aaP.ite (fun _ =>?_) fun _ =>?_
 ·refine (al9 (n:=5) (by decide) hk).bind fun o ho =>?_
  refine aaP.ite (fun _ =>?_) fun n4 =>aaP.ite (fun _ =>?_) fun n3 =>aaP.ite (fun _ =>?_) fun n2 =>aaP.ite (fun _ =>?_) fun n1 =>aaP.ite (fun _ =>?_) fun n0 =>?_
  ·exact (hI.c h hN).bind fun o ho =>.some_ ⟨ho.1,rfl,ho.2⟩
  ·exact (hI.w h hN (j:=3) rfl).bind fun o ho =>.some_ ⟨ho.1,rfl,ho.2⟩
  ·exact (hI.w h hN (j:=2) rfl).bind fun o ho =>.some_ ⟨ho.1,rfl,ho.2⟩
  ·exact (hI.w h hN (j:=1) rfl).bind fun o ho =>.some_ ⟨ho.1,rfl,ho.2⟩
  ·exact (hI.w h hN (j:=0) rfl).bind fun o ho =>.some_ ⟨ho.1,rfl,ho.2⟩
  ·exfalso; have m0:¬ o.1.1=((0:Nat):Int):=n0; have m1:¬ o.1.1=((1:Nat):Int):=n1; have m2:¬ o.1.1=((2:Nat):Int):=n2; have m3:¬ o.1.1=((3:Nat):Int):=n3; have m4:¬ o.1.1=((4:Nat):Int):=n4; omega
 ·exact ⟨_,rfl,hI.n (hI.k h),rfl,[],by simp⟩
 ·exact ⟨_,rfl,hI.n (hI.k h),rfl,[],by simp⟩
 ·exact ⟨_,rfl,hI.n h,rfl,[],by simp⟩
theorem aHw {c:Cfg} {I:Nat→EnvP→List (WorkerV MV)→ClientV MV→Prop} (hI:EngI c I) {N:Nat} {env:EnvP} {w0 w1 w2 w3:WorkerV MV} {cl:ClientV MV} {eng:aqE} {l:List EntV} (h:I N env [w0,w1,w2,w3] cl) (hg:EG N env eng) (hN:N+l.length≤100000) :
  aaP (lpF (ao9 l) 18446744073709551616 (0,env,w0,w1,w2,w3,cl,eng,())) fun z =>I (N+l.length) z.2.1 [z.2.2.1,z.2.2.2.1,z.2.2.2.2.1,z.2.2.2.2.2.1] z.2.2.2.2.2.2.1∧EG (N+l.length) z.2.1 z.2.2.2.2.2.2.2.1∧∃ m,z.2.1.evs=env.evs++m:=by
 refine acx (fun x =>0≤x.1∧x.1≤(l.length:Int)∧I (N+x.1.toNat) x.2.1 [x.2.2.1,x.2.2.2.1,x.2.2.2.2.1,x.2.2.2.2.2.1] x.2.2.2.2.2.2.1∧EG (N+x.1.toNat) x.2.1 x.2.2.2.2.2.2.2.1∧∃ m,x.2.1.evs=env.evs++m) (fun x =>(l.length:Int).toNat-x.1.toNat) (fun self x hx ih =>?_) _ _ ?init (by show (l.length:Int).toNat-0<_; omega)
 case init =>exact ⟨Int.le_refl 0,by show (0:Int)≤_; omega,h,hg,[],by simp⟩
 obtain ⟨i,en2,w0,w1,w2,w3,cl,eng,⟨⟩⟩:=x
 obtain ⟨q1,q2,h,hg,m0,hm⟩:=hx
 simp only at q1 q2 h hg hm
 unfold ao9
 refine aaP.ite (fun hlt =>?_) fun hge =>.some_ ?iend
 case iend =>
  have hge:¬ i<(l.length:Int):=hge
  have:i.toNat=l.length:=by omega
  rw [this] at h hg
  exact ⟨h,hg,m0,hm⟩
 have hlt:i<(l.length:Int):=hlt
 refine aaP.guard ⟨q1,hlt⟩ fun _ =>?_
 rw [ams,bnd]
 refine (aHA hI (i:=i) (l:=l) (eng:=eng) h (by omega)).bind fun z hz =>?_
 obtain ⟨ze,z0,z1,z2,z3,zc,zg,⟨⟩⟩:=z
 obtain ⟨a3,ag,m1,hm1⟩:=hz
 simp only at a3 ag hm1
 subst ag
 have hev:=hI.ev a3
 refine av5 hg ⟨m1,hm1⟩ (by show ze.evs.length≤_; omega) (by omega) fun eng2 he =>?_
 have ei:wi (i+1)=i+1:=aaw (aai (by omega))
 have en:N+i.toNat+1=N+(i+1).toNat:=by omega
 rw [en] at a3 he
 show aaP (self (wi (i+1),ze,z0,z1,z2,z3,zc,_,())) _
 rw [ei]
 exact ih _ ⟨by show 0≤i+1; omega,by show i+1≤_; omega,a3,he,m0++m1,by show ze.evs=_; rw [hm1,hm,List.append_assoc]⟩ (by show _-(i+1).toNat<_-i.toNat; omega)
abbrev cg9 {α:Type} (c:Cfg) (x:Option α):Option α:=if c.workers=c.workers then (if c.levels=c.levels then (if c.classes=c.classes then (if c.tasks=c.tasks then (if c.deque=c.deque then (if c.heap=c.heap then (if c.batch=c.batch then (if c.age=c.age then (if c.patience=c.patience then x else none) else none) else none) else none) else none) else none) else none) else none) else none
theorem axe {α:Type} (c:Cfg) (x:Option α):cg9 c x=x:=by simp only [cg9,if_true]
abbrev ac0 (c:Cfg) (y1:List Int):Int:=if wi (40*((c.subs.length:Nat):Int))<wi (3*((y1.length:Nat):Int)) then wi (40*((c.subs.length:Nat):Int)) else wi (3*((y1.length:Nat):Int))
noncomputable def axu (y2:List Int) (c:Cfg) (self:List EntV×Int×Unit→Option (List EntV×Int×Unit)) (x:List EntV×Int×Unit):Option (List EntV×Int×Unit) :=
 if x.2.1<((y2.length:Nat):Int) then
 if x.2.1<40 then
 (adT y2 (wi (5*x.2.1)) (wi (c.workers+1))).bind fun r =>
 if (((x.1.length+r.1.1.length:Nat)):Int)<1000000000000 then self (x.1++r.1.1,wi (x.2.1+1),()) else none
 else some (x.1,x.2.1,())
 else some (x.1,x.2.1,())
noncomputable def aJp (c:Cfg) (cells left:List Int) (i:Int) (self:Bool×Int×Unit→Option (Bool×Int×Unit)) (x:Bool×Int×Unit):Option (Bool×Int×Unit) :=
 if x.2.1<((left.length:Nat):Int) then
 (ac5 c x.2.1).bind fun r =>
 if 0≤r.1.1∧r.1.1<((cells.length:Nat):Int) then
 (abM (aeu cells r.1.1)).bind fun u =>
 if x.1=true then self (true,wi (x.2.1+1),())
 else if 0≤i∧i<((left.length:Nat):Int) then self (decide (u.1.2.2.1=(ahz left i)),wi (x.2.1+1),()) else none
 else none
 else some (x.1,x.2.1,())
noncomputable def aHO (c:Cfg) (cells left:List Int) (self:Int×Unit→Option ((Int×Unit)⊕((Bool×Unit)×Unit))) (x:Int×Unit):Option ((Int×Unit)⊕((Bool×Unit)×Unit)) :=
 if x.1<((left.length:Nat):Int) then
 (lpF (aJp c cells left x.1) 18446744073709551616 (false,0,())).bind fun z =>
 if (!z.1)=true then Option.map Sum.inr (some ((false,()),())) else self (wi (x.1+1),())
 else some (Sum.inl (x.1,()))
noncomputable def ari (c:Cfg) (h:List Ev) (m:MemV):Option ((Bool×Unit)×Unit) :=
 (aeg m).bind fun r35 =>
 (akd c h).bind fun r36 =>
 (al2 c h).bind fun r37 =>
 if r36.1.1≠((h.length:Nat):Int) then some ((false,()),()) else
 if r36.1.2.1≠0 then some ((false,()),()) else
 (adA c).bind fun r38 =>
 if ((r35.1.1.length:Nat):Int)≠r38.1.1 then some ((false,()),()) else
 if 0≤(1:Int)∧(1:Int)<((r35.1.1.length:Nat):Int) then
 if (aeu r35.1.1 1)≠0 then some ((true,()),()) else
 if 0≤(2:Int)∧(2:Int)<((r35.1.1.length:Nat):Int) then
 if (aeu r35.1.1 2)≠(wu (((r37.1.1.length:Nat):Int))) then some ((false,()),()) else
 (lpF (aHO c r35.1.1 r37.1.1) 18446744073709551616 (0,())).bind fun z40 =>match z40 with
 | .inr o =>some o
 | .inl _ =>
 if ((r37.1.1.length:Nat):Int)=0 then some ((true,()),()) else
 (ac5 c 0).bind fun r48 =>
 if 0≤r48.1.1∧r48.1.1<((r35.1.1.length:Nat):Int) then
 (abM (aeu r35.1.1 r48.1.1)).bind fun r49 =>
 if 0≤(0:Int)∧(0:Int)<((r37.1.1.length:Nat):Int) then some ((decide (r49.1.2.2.1=(ahz r37.1.1 0)),()),()) else none
 else none
 else none
 else none
theorem aFb {l:List Ev} {i:Int} (h:0≤i∧i<(l.length:Int)):∃ hi:i.toNat<l.length,axL l i=l[i.toNat]:=by
 have hi:i.toNat<l.length:=by omega
 refine ⟨hi,?_⟩
 show (l[i.toNat]?).getD _=_
 rw [List.getElem?_eq_getElem hi]; rfl
theorem ax4 {l:List Ev} {i:Int} (h:0≤i∧i<(l.length:Int)):l.take (i+1).toNat=l.take i.toNat++[axL l i]:=by
 obtain ⟨hi,e⟩:=aFb h
 rw [e,show (i+1).toNat=i.toNat+1 by omega]
 exact List.take_succ_eq_append_getElem hi
theorem ar9 {g:List Int} {evs:List Ev} (h1:g.length=evs.length) (h2:evs.length≤999999999):aaP (ajM (List.zipWith stF g evs)) fun r =>r.1.1=evs:=by
 have hl:(List.zipWith stF g evs).length=evs.length:=by rw [List.length_zipWith,h1]; omega
 unfold ajM
 refine aaP.bind (P:=fun z =>z.1=evs) (acx (fun x =>0≤x.2.1∧x.2.1≤(evs.length:Int)∧x.1=evs.take x.2.1.toNat) (fun x =>((evs.length:Int)-x.2.1).toNat) (fun self x hx ih =>?_) _ _ ⟨Int.le_refl 0,by show (0:Int)≤_; omega,rfl⟩ (by show ((evs.length:Int)-0).toNat<_; omega)) fun z hz =>.some_ hz
 obtain ⟨l,i,⟨⟩⟩:=x
 obtain ⟨q1,q2,q3⟩:=hx
 simp only at q1 q2 q3
 have e1:wi (i+1)=i+1:=aaw (aai (by omega))
 refine aaP.ite (fun hlt =>?_) fun hge =>.some_ ?_
 ·have hlt:i<(((List.zipWith stF g evs).length:Nat):Int):=hlt
  have hll:l.length≤evs.length:=by rw [q3,List.length_take]; omega
  have hi:i.toNat<(List.zipWith stF g evs).length:=by omega
  refine .guard ⟨q1,hlt⟩ fun _ =>.guard (by simp only [List.length_singleton]; omega) fun _ =>?_
  show aaP (self (l++[(axU (List.zipWith stF g evs) i).ev],wi (i+1),())) _
  rw [e1]
  refine ih _ ⟨by show 0≤i+1; omega,by show i+1≤_; omega,?_⟩ (by show (_-(i+1):Int).toNat<(_-i:Int).toNat; omega)
  show l++[_]=_
  have e6:(axU (List.zipWith stF g evs) i).ev=axL evs i:=by
   have:=aeL (α:=St) (d:=(dfR 6:TR 6)) (xs:=List.zipWith stF g evs) (i:=i) ⟨q1,hlt⟩
   rw [List.getElem?_eq_getElem hi,List.getElem_zipWith] at this
   obtain ⟨_,e⟩:=aFb (l:=evs) (i:=i) ⟨q1,by omega⟩
   rw [e]
   exact congrArg St.ev (Option.some.inj this).symm
  rw [e6,q3,ax4 ⟨q1,by omega⟩]
 ·have hge:¬ i<(((List.zipWith stF g evs).length:Nat):Int):=hge
  show l=_
  rw [q3,List.take_of_length_le (by omega)]
section
variable {c:Cfg}
theorem aFu (hd:DecOk c):∀ i,0≤i→i<(c.subs.length:Int)→0≤(abf c.subs i).deadline∧(abf c.subs i).deadline≤1000:=fun i h0 h1 =>by
 have:=(hd.ss _ (auF (α:=Sub) (d:=(dfR 4:TR 4)) (xs:=c.subs) (i:=i) ⟨h0,h1⟩)).2.2
 exact ⟨this.1,Int.le_trans this.2 (by decide)⟩
theorem aD5 {s t:List QK×Int}:∀ {l:List Ev} {i:Nat} (h:i<l.length),akO c s l=some t→∃ u u',akO c s (l.take i)=some u∧ahS c u l[i]=some u'∧akO c s (l.take (i+1))=some u':=fun {l i} h hr =>by
 have e:l=l.take i++(l[i]::l.drop (i+1)):=by rw [← List.drop_eq_getElem_cons h,List.take_append_drop]
 rw [e,aij] at hr
 cases hu:akO c s (l.take i) with
 | none =>rw [hu] at hr; cases hr
 | some u =>
  rw [hu] at hr
  have hr:(ahS c u l[i]).bind (fun s =>akO c s (l.drop (i+1)))=some t:=hr
  cases hv:ahS c u l[i] with
  | none =>rw [hv] at hr; cases hr
  | some u' =>
   refine ⟨u,u',rfl,hv,?_⟩
   rw [List.take_succ_eq_append_getElem h,aij,hu]
   show akO c u [l[i]]=_
   rw [aoI,hv]
theorem atO (hd:DecOk c) {evs:List Ev} {q:List QK} {a:Int} (h:akO c ([],0) evs=some (q,a)) (hl:evs.length≤900000):∃ ct:CtP,ajC c evs=some ((((evs.length:Nat):Int),ct,()),())∧ct.keys.map toQ=q:=by
  have hh:=hd.h
  unfold ajC
  have key:aaP (lpF (σ:=Int×CtP×Unit) (β:=(Int×CtP×Unit)⊕((Int×CtP×Unit)×(Unit))) (fun self3 x1 =>
    if x1.1<((evs.length:Nat):Int) then
     if 0≤x1.1∧x1.1<((evs.length:Nat):Int) then
      (aaH x1.2.1 c (axL evs x1.1)).bind fun r4 =>
      if (!r4.1.1)=true then
       Option.map Sum.inr (some ((x1.1,r4.2.1,()),()))
      else
      self3 (wi (x1.1+1),r4.2.1,())
     else none
    else
    some (Sum.inl (x1.1,x1.2.1,()))) 18446744073709551616 (0,(⟨[],0⟩:CtP),())) fun z =>∃ ct:CtP,z=.inl ((evs.length:Int),ct,())∧ct.keys.map toQ=q:=by
    refine acx (fun x =>∃ i:Nat,x.1=(i:Int)∧i≤evs.length∧∃ s:List QK×Int,akO c ([],0) (evs.take i)=some s∧x.2.1.keys.map toQ=s.1∧x.2.1.count=s.2∧SQ s.1 s.2∧(0≤s.2∧s.2≤(i:Int))∧(s.1.length:Int)≤c.heap) (fun x =>((evs.length:Int)-x.1).toNat) (fun self x hx ih =>?_) _ _ ⟨0,rfl,Nat.zero_le _,([],0),rfl,rfl,rfl,SQ.nil,⟨Int.le_refl 0,Int.le_refl 0⟩,by show (0:Int)≤_; omega⟩ (by show ((evs.length:Int)-0).toNat<_; omega)
    obtain ⟨xi,ct,⟨⟩⟩:=x
    obtain ⟨i,hi,h1,s,h2,h3,h4,h5,h6,h7⟩:=hx
    obtain rfl:xi=(i:Int):=hi
    simp only at h3 h4
    refine aaP.ite (fun hlt =>?_) fun hge =>.some_ ⟨ct,?_,?_⟩
    · have hlt:(i:Int)<((evs.length:Nat):Int):=hlt
      have hi:i<evs.length:=by omega
      refine .guard ⟨by show 0≤(i:Int); omega,hlt⟩ fun _ =>?_
      obtain ⟨u,u',k1,k2,k3⟩:=aD5 hi h
      obtain rfl:u=s:=Option.some.inj (k1.symm.trans h2)
      obtain ⟨_,ea⟩:=aFb (l:=evs) (i:=(i:Int)) ⟨by omega,hlt⟩
      have ea:axL evs (i:Int)=evs[i]:=ea
      obtain ⟨q',a1,a2,a3⟩:=aFI h5 h3 h4 h6.1 (by omega) k2
      obtain ⟨b1,b2,b3⟩:=aBq (aFu hd) h5 ⟨h6.1,by omega⟩ h7 k2
      have e1:wi ((i:Int)+1)=((i+1:Nat):Int):=aaw (aai (by omega))
      simp only
      rw [ea,a1,adi,if_neg (show ¬ (!true)=true by decide),e1]
      exact ih _ ⟨i+1,rfl,by omega,u',k3,a2,a3,b1,by omega,b3⟩ (by show ((evs.length:Int)-((i+1:Nat):Int)).toNat<((evs.length:Int)-(i:Int)).toNat; omega)
    · have hge:¬ (i:Int)<((evs.length:Nat):Int):=hge
      have:i=evs.length:=by omega
      rw [this]
    · have hge:¬ (i:Int)<((evs.length:Nat):Int):=hge
      have e:i=evs.length:=by omega
      rw [e,List.take_length,h] at h2
      show ct.keys.map toQ=q
      rw [h3,← Option.some.inj h2]
  obtain ⟨z,hz,ct,rfl,hk⟩:=key
  rw [hz]
  exact ⟨ct,rfl,hk⟩
theorem aCE (hd:DecOk c) {evs:List Ev} {q:List QK} {a:Int} (h:akO c ([],0) evs=some (q,a)) (hl:evs.length≤900000):akd c evs=some ((((evs.length:Nat):Int),0,()),()):=by
 obtain ⟨ct,e,_⟩:=atO hd h hl
 unfold akd
 rw [show aiJ c=some ((ae5 c,()),()) from rfl,adi,if_neg (fun k =>k (afU hd)),e,adi,if_neg (Int.lt_irrefl _)]
theorem aEP (hd:DecOk c) {evs:List Ev} {q:List QK} {a:Int} (h:akO c ([],0) evs=some (q,a)) (hl:evs.length≤900000) (hq:q.length≤1000):al2 c evs=some ((q.map QK.t,()),()):=by
  obtain ⟨ct,e,hk⟩:=atO hd h hl
  have hlen:ct.keys.length=q.length:=by rw [← hk,List.length_map]
  have em:q.map QK.t=ct.keys.map KyV.task:=by rw [← hk,List.map_map]; rfl
  unfold al2
  rw [show aiJ c=some ((ae5 c,()),()) from rfl,adi,if_neg (fun k =>k (afU hd)),e,adi]
  have key:aaP (lpF (σ:=List Int×Int×Unit) (β:=List Int×Int×Unit) (fun self5 x3 =>
    if x3.2.1<((ct.keys.length:Nat):Int) then
     if 0≤x3.2.1∧x3.2.1<((ct.keys.length:Nat):Int) then
      if (((x3.1.length+([(agf ct.keys x3.2.1).task]:List Int).length:Nat)):Int)<1000000000000 then
       self5 (x3.1++([(agf ct.keys x3.2.1).task]),wi (x3.2.1+1),())
      else none
     else none
    else
    some (x3.1,x3.2.1,())) 18446744073709551616 ([],0,())) fun z =>z.1=ct.keys.map KyV.task:=by
    refine acx (fun x =>∃ i:Nat,x.2.1=(i:Int)∧i≤ct.keys.length∧x.1=(ct.keys.take i).map KyV.task) (fun x =>((ct.keys.length:Int)-x.2.1).toNat) (fun self x hx ih =>?_) _ _ ⟨0,rfl,Nat.zero_le _,rfl⟩ (by show ((ct.keys.length:Int)-0).toNat<_; omega)
    obtain ⟨l,xi,⟨⟩⟩:=x
    obtain ⟨i,hi,h1,h2⟩:=hx
    obtain rfl:xi=(i:Int):=hi
    simp only at h2
    refine aaP.ite (fun hlt =>?_) fun hge =>.some_ ?_
    · have hlt:(i:Int)<((ct.keys.length:Nat):Int):=hlt
      have hi:i<ct.keys.length:=by omega
      have hll:l.length≤i:=by rw [h2,List.length_map,List.length_take]; omega
      refine .guard ⟨by show 0≤(i:Int); omega,hlt⟩ fun _ =>.guard (by simp only [List.length_singleton]; omega) fun _ =>?_
      have e1:wi ((i:Int)+1)=((i+1:Nat):Int):=aaw (aai (by omega))
      simp only
      rw [e1]
      refine ih _ ⟨i+1,rfl,by omega,?_⟩ (by show ((ct.keys.length:Int)-((i+1:Nat):Int)).toNat<((ct.keys.length:Int)-(i:Int)).toNat; omega)
      show l++[(agf ct.keys (i:Int)).task]=_
      rw [h2,akr hi,List.take_succ_eq_append_getElem hi,List.map_append]; rfl
    · have hge:¬ (i:Int)<((ct.keys.length:Nat):Int):=hge
      show l=_
      rw [h2,List.take_of_length_le (by omega)]
  obtain ⟨z,hz,hz1⟩:=key
  rw [em]
  refine (congrArg (fun o =>Option.bind o _) hz).trans ?_
  rw [adi,hz1]
theorem aIJ:aba 16=some ((65536,()),()):=by kernel_rfl
theorem aII:aba 24=some ((16777216,()),()):=by kernel_rfl
theorem aIH:aba 40=some ((1099511627776,()),()):=by kernel_rfl
theorem ao4 (x:Int):∃ o,abM x=some o∧o.1.2.2.1=wi (Int.tmod x 65536):=by
 unfold abM
 rw [aIH,adi,if_pos (by decide),aIJ,adi,if_pos (by decide),aII,adi,if_pos (by decide),adi,if_pos (by decide)]
 exact ⟨_,rfl,rfl⟩
theorem aGH {q:QK} (h:(0≤q.d∧q.d≤1000)∧(0≤q.a∧q.a≤1000001)∧0≤q.t∧q.t≤65535):wi (Int.tmod (pkV q) 65536)=q.t:=by
 have e:Int.tmod (pkV q) 65536=q.t:=by
  rw [Int.tmod_eq_emod_of_nonneg (by unfold pkV; omega)]
  unfold pkV; omega
 rw [e]
 exact aaw (aai (by omega))
theorem ayg (hh:c.heap≤1000) {i:Int} (h:0≤i∧i<c.heap):ac5 c i=some ((4+i,()),()):=by
 unfold ac5 aeF
 rw [if_neg (by omega),if_neg (by omega),adi,Int.mul_one,aaw (x:=i) (aai (by omega)),aaw (aai (by omega))]
theorem aDU (hd:DecOk c):adA c=some ((aa9 c,()),()):=by
 have hw:=hd.w; have hl:=hd.l; have hk:=hd.k; have ht:=hd.t; have hq:=hd.q; have hh:=hd.h
 have h1:=azd (a:=c.workers) (b:=c.levels) (A:=4) (B:=4) (by omega) (by omega) (by omega) (by omega)
 have h2:=azd (a:=c.workers*c.levels) (b:=2+c.deque) (A:=16) (B:=6) (by omega) (by omega) (by omega) (by omega)
 unfold adA aek
 rw [adi,if_pos rfl,if_pos rfl,if_pos rfl,if_pos rfl]
 have e:wi (wi (wi (wi (wi (4+c.heap)+c.classes)+wi (2*c.workers))+wi (wi (c.workers*c.levels)*wi (2+c.deque)))+wi (5*c.tasks))=aa9 c:=by
  rw [aaw (x:=4+c.heap) (aai (by omega)),aaw (x:=4+c.heap+c.classes) (aai (by omega)),aaw (x:=2*c.workers) (aai (by omega)),aaw (x:=4+c.heap+c.classes+2*c.workers) (aai (by omega)),aaw (x:=c.workers*c.levels) (aai (by omega)),aaw (x:=2+c.deque) (aai (by omega)),aaw (x:=c.workers*c.levels*(2+c.deque)) (aai (by omega)),aaw (x:=5*c.tasks) (aai (by omega)),aaw (x:=4+c.heap+c.classes+2*c.workers+c.workers*c.levels*(2+c.deque)) (aai (by omega)),aaw (aai (by omega))]
  show _=4+c.heap+c.classes+c.workers+c.workers+c.workers*c.levels*(2+c.deque)+5*c.tasks
  omega
 rw [e]
theorem aFH {l:List Int} {i:Nat} (h:i<l.length):ahz l (i:Int)=l[i]:=by
 show (l[(i:Int).toNat]?).getD _=_
 rw [Int.toNat_natCast,List.getElem?_eq_getElem h]; rfl
theorem aE1 (hd:DecOk c) {cells:List Int} {q:List QK} (hn:(cells.length:Int)=aa9 c) (hq:(q.length:Int)≤c.heap) {i:Nat} (hi:i<q.length) {j:Nat} (hj:j<q.length) (hs:∃ o,abM (aeu cells (4+(j:Int)))=some o∧o.1.2.2.1=q[i].t):aaP (lpF (aJp c cells (q.map QK.t) (i:Int)) 18446744073709551616 (false,0,())) fun z =>z.1=true:=by
 have hh:=hd.h
 have htab:=ahD hd
 have hcn:aa9 c=(aaE c).table+5*c.tasks:=rfl
 have ht:=hd.t
 have ll:(q.map QK.t).length=q.length:=List.length_map ..
 refine acx (fun x =>∃ k:Nat,x.2.1=(k:Int)∧k≤q.length∧(j<k→x.1=true)) (fun x =>((q.length:Int)-x.2.1).toNat) (fun self x hx ih =>?_) _ _ ⟨0,rfl,Nat.zero_le _,fun h =>absurd h (Nat.not_lt_zero _)⟩ (by show ((q.length:Int)-0).toNat<_; omega)
 obtain ⟨b,xk,⟨⟩⟩:=x
 obtain ⟨k,hk,h1,h2⟩:=hx
 obtain rfl:xk=(k:Int):=hk
 simp only at h2
 unfold aJp
 refine aaP.ite (fun hlt =>?_) fun hge =>.some_ ?_
 ·have hlt:(k:Int)<(((q.map QK.t).length:Nat):Int):=hlt
  rw [ll] at hlt
  simp only
  rw [ayg (i:=(k:Int)) (by omega) (by omega),adi]
  refine .guard (by show 0≤4+(k:Int)∧4+(k:Int)<((cells.length:Nat):Int); omega) fun _ =>?_
  obtain ⟨o,ho,hv⟩:=ao4 (aeu cells (4+(k:Int)))
  rw [ho,adi]
  have e1:wi ((k:Int)+1)=((k+1:Nat):Int):=aaw (aai (by omega))
  rw [e1]
  refine aaP.ite (fun hb =>?_) fun hb =>.guard (by rw [ll]; omega) fun _ =>?_
  ·exact ih _ ⟨k+1,rfl,by omega,fun _ =>rfl⟩ (by show ((q.length:Int)-((k+1:Nat):Int)).toNat<((q.length:Int)-(k:Int)).toNat; omega)
  ·refine ih _ ⟨k+1,rfl,by omega,fun hjk =>?_⟩ (by show ((q.length:Int)-((k+1:Nat):Int)).toNat<((q.length:Int)-(k:Int)).toNat; omega)
   have hjk2:j=k:=by
    rcases Nat.lt_or_ge j k with g | g
    ·exact absurd (h2 g) hb
    ·omega
   subst hjk2
   obtain ⟨o',ho',hv'⟩:=hs
   obtain rfl:o=o':=Option.some.inj (ho.symm.trans ho')
   refine decide_eq_true ?_
   rw [hv',aFH (by rw [ll]; exact hi),List.getElem_map]
 ·have hge:¬ (k:Int)<(((q.map QK.t).length:Nat):Int):=hge
  rw [ll] at hge
  exact h2 (by omega)
theorem avx {e:EnvP} {a:Int} (h:0≤a∧a<(e.m.cells.length:Int)):e.gt a=aeu e.m.cells a:=if_pos h
theorem alv (hd:DecOk c) {N:Nat} {e:EnvP} {ws:List (WorkerV MV)} {cl:ClientV MV} (h:HI c N e ws cl) (hN:N≤100000):aaP (ari c e.evs e.m) fun r =>r.1.1=true:=by
 have hev:=amn.ev h
 obtain ⟨q,a,h1,h2,h3,h4,hn,h5⟩:=aJO h
 have hh:=hd.h
 have ht:=hd.t
 have htab:=ahD hd
 have hcn:aa9 c=(aaE c).table+5*c.tasks:=rfl
 unfold ari
 rw [aCF e.m (by omega),adi,aCE hd h1 (by omega),adi,aEP hd h1 (by omega) (by omega),adi]
 refine aaP.ite (fun k =>absurd rfl k) fun _ =>aaP.ite (fun k =>absurd rfl k) fun _ =>?_
 rw [aDU hd,adi]
 refine aaP.ite (fun k =>absurd hn k) fun _ =>.guard (by show 0≤(1:Int)∧(1:Int)<((e.m.cells.length:Nat):Int); omega) fun _ =>aaP.ite (fun _ =>.some_ rfl) fun hz =>.guard (by show 0≤(2:Int)∧(2:Int)<((e.m.cells.length:Nat):Int); omega) fun _ =>?_
 have hz:e.gt 1=0:=by rw [avx (by omega)]; exact Decidable.of_not_not hz
 have R:=h5 hz
 have e2:aeu e.m.cells 2=(q.length:Int):=by rw [← avx (by omega)]; exact R.n
 have ll:(q.map QK.t).length=q.length:=List.length_map ..
 refine aaP.ite (fun k =>absurd (by
  show aeu e.m.cells 2=wu (((q.map QK.t).length:Nat):Int)
  rw [ll,e2,ae9 (by omega)]) k) fun _ =>?_
 have low:∀ x∈q,wi (Int.tmod (pkV x) 65536)=x.t:=fun x hx =>aGH (by have:=h2.r x hx; have:=h2.b; omega)
 have cell:∀ j:Nat,j<q.length→aeu e.m.cells (4+(j:Int))=slG c e j:=fun j hj =>by
  rw [aqU (by omega),avx (by omega)]
 refine aaP.bind (P:=fun z =>∃ y,z=.inl y) (acx (fun x =>∃ i:Nat,x.1=(i:Int)∧i≤q.length) (fun x =>((q.length:Int)-x.1).toNat) (fun self x hx ih =>?_) _ _ ⟨0,rfl,Nat.zero_le _⟩ (by show ((q.length:Int)-0).toNat<_; omega)) fun z ⟨y,hy⟩ =>?_
 ·obtain ⟨xi,⟨⟩⟩:=x
  obtain ⟨i,hi,hi2⟩:=hx
  obtain rfl:xi=(i:Int):=hi
  unfold aHO
  refine aaP.ite (fun hlt =>?_) fun _ =>.some_ ⟨_,rfl⟩
  have hlt:(i:Int)<(((q.map QK.t).length:Nat):Int):=hlt
  rw [ll] at hlt
  have hil:i<q.length:=by omega
  have p:0<ali (slG c e) (pkV q[i]) q.length:=by rw [show ali (slG c e) (pkV q[i]) q.length=aqD (pkV q[i]) q from R.ct _]; exact asK (List.getElem_mem hil)
  obtain ⟨j,j1,j2⟩:=asL p
  refine (aE1 hd hn h3 hil j1 ?_).bind fun z hz =>?_
  ·obtain ⟨o,ho,hv⟩:=ao4 (aeu e.m.cells (4+(j:Int)))
   refine ⟨o,ho,?_⟩
   rw [hv,cell j j1,j2]
   exact low _ (List.getElem_mem hil)
  ·rw [hz]
   refine aaP.ite (fun k =>by cases k) fun _ =>?_
   have e1:wi ((i:Int)+1)=((i+1:Nat):Int):=aaw (aai (by omega))
   simp only
   rw [e1]
   exact ih _ ⟨i+1,rfl,by omega⟩ (by show ((q.length:Int)-((i+1:Nat):Int)).toNat<((q.length:Int)-(i:Int)).toNat; omega)
 ·subst hy
  refine aaP.ite (fun _ =>.some_ rfl) fun hne =>?_
  have hne:¬ (((q.map QK.t).length:Nat):Int)=0:=hne
  rw [ll] at hne
  rw [ayg (i:=0) (by omega) (by omega),adi]
  refine .guard (by show 0≤(4+0:Int)∧(4+0:Int)<((e.m.cells.length:Nat):Int); omega) fun _ =>?_
  obtain ⟨o,ho,hv⟩:=ao4 (aeu e.m.cells (4+0))
  rw [ho,adi]
  refine .guard ⟨by decide,by show (0:Int)<(((q.map QK.t).length:Nat):Int); rw [ll]; omega⟩ fun _ =>.some_ (decide_eq_true ?_)
  obtain ⟨k,l,hq,hk⟩:=R.head (by have:=R.n; omega)
  subst hq
  have c0:aeu e.m.cells (4+((0:Nat):Int))=slG c e 0:=cell 0 (by simp)
  have c0:aeu e.m.cells (4+0)=slG c e 0:=c0
  have hk:pkV k=slG c e 0:=hk
  rw [hv,c0,← hk,low k List.mem_cons_self]
  rfl
end
noncomputable def aIm (c:Cfg) (y2:List Int) (l:List EntV):Option ((Bool×Unit)×Unit) :=
 (lpF (axu y2 c) 18446744073709551616 (l,0,())).bind fun s =>
 (aeh c).bind fun r9 =>
 if r9.1.2.1≠0 then (if r9.1.2.1≠0 then some ((false,()),()) else some ((false,()),())) else
 (afW c).bind fun r12 =>
 if c.workers=((1:Nat):Int) then
 (adq 0).bind fun w0 =>
 (lpF (apc s.1) 18446744073709551616 (0,r9.1.1,w0.1.1,r12.1.1,(0,[],0,0,0,0,()),())).bind fun z =>
 (abZ).bind fun r =>
 if (!r.1.1)=true then some ((false,()),()) else
 (lpF (aFV z.2.1.evs) 18446744073709551616 (0,[],z.2.2.2.2.1,())).bind fun v =>
 (ajM v.2.1).bind fun h =>
 ari c h.1.1 z.2.1.m
 else none
noncomputable def abg (y0:List Int) (y1:List Int) (y2:List Int):Option ((Bool×Unit)×(Unit)) :=
 (apY y0 ([y2])).bind fun r1 =>
 if (!r1.1.1)=true then some ((true,()),()) else
 if 600<((y1.length:Nat):Int) then some ((true,()),()) else
 (agc y0).bind fun r2 =>
 agr (cg9 r2.1.1 (
 (aaI r2.1.1).bind fun r3 =>
 if 0≤ac0 r2.1.1 y1∧ac0 r2.1.1 y1≤((r3.1.1.length:Nat):Int) then
 if (((([]:List EntV).length+(r3.1.1.take (ac0 r2.1.1 y1:Int).toNat).length:Nat)):Int)<1000000000000 then
 (ag2 y1 300).bind fun r4 =>
 if ((((([])++(r3.1.1.take (ac0 r2.1.1 y1:Int).toNat)).length+r4.1.1.length:Nat)):Int)<1000000000000 then
 aIm r2.1.1 y2 ((([])++(r3.1.1.take (ac0 r2.1.1 y1:Int).toNat))++r4.1.1)
 else none
 else none
 else none
 )) (
 (aaI r2.1.1).bind fun r3 =>
 if 0≤ac0 r2.1.1 y1∧ac0 r2.1.1 y1≤((r3.1.1.length:Nat):Int) then cg9 r2.1.1 (
 if (((([]:List EntV).length+(r3.1.1.take (ac0 r2.1.1 y1:Int).toNat).length:Nat)):Int)<1000000000000 then
 (ag2 y1 300).bind fun r4 =>
 if ((((([])++(r3.1.1.take (ac0 r2.1.1 y1:Int).toNat)).length+r4.1.1.length:Nat)):Int)<1000000000000 then
 aIm r2.1.1 y2 ((([])++(r3.1.1.take (ac0 r2.1.1 y1:Int).toNat))++r4.1.1)
 else none
 else none)
 else none
 )
noncomputable abbrev agw:Con SR1:=⟨3,[.sh (.ro 17),.sh (.ro 17),.sh (.ro 1)],[.sh .b],fun x =>abg x.1 x.2.1 x.2.2.1⟩
noncomputable def af6:List (Nat×Func):=[(6,Tryz.f6),(20,Tryz.f20),(35,Tryz.f35),(58,Tryz.f58),(36,Tryz.f36),(21,Tryz.f21),(9,Tryz.f9),(10,Tryz.f10)]
theorem af7:CO Tryz.prog agw:=aak aaj Tryz.func3 [aml,ahY,abr,ajG,acs,aeO,afq,afh,ab3,ads,acm,acg,ac2,ady,acl,ab9,ah2,acP,afN,ag0,aca,acr,abV] ⟨amk,ahX,abW,akg,ac7,ae1,afV,afH,act,adL,acT,acJ,adx,adO,acO,acV,ah1,adn,agC,ahg,acW,ac4,acv,trivial⟩ af6 ⟨Tryz.func6,Tryz.func20,Tryz.func35,Tryz.func58,Tryz.func36,Tryz.func21,Tryz.func9,Tryz.func10,trivial⟩ (fun f =>(get [(6,[(4,.loop [.rg 7 (.row 5),.rg 8 sI_] 18446744073709551616 0)]),(35,[(6,.spl 22 [1] 2)]),(58,[(2,.unroll 2)]),(36,[(1,.loop [.rg 8 sI_,.ob 50 27,.ob 64 31,.ob 52 30,.cx 53 [.inr (.ptr 50 0),.inr (.sl 66),.inr (.ptr 52 0),.inr (.sl 92),.inl sI_,.inl (.row 1),.inl sI_,.inl sI_,.inl sU_,.inl sU_]] 18446744073709551616 0)]),(21,[(9,.cut [.ob 50 27,.ob 64 31,.ob 52 30,.cx 53 [.inr (.ptr 50 0),.inr (.sl 66),.inr (.ptr 52 0),.inr (.sl 92),.inl sI_,.inl (.row 1),.inl sI_,.inl sI_,.inl sU_,.inl sU_]] [0,1,2,3,14,15,95,96,97]),(12,.loop [.ob 50 27,.cx 53 [.inr (.ptr 50 0),.inr (.sl 66),.inr (.ptr 52 0),.inr (.sl 92),.inl sI_,.inl (.row 1),.inl sI_,.inl sI_,.inl sU_,.inl sU_]] 18446744073709551616 1)]),(9,[(3,.loop [.rg 14 sI_,.rg 3 (.row 6),.cx 53 [.inr (.ptr 50 0),.inr (.sl 66),.inr (.ptr 52 0),.inr (.sl 92),.inl sI_,.inl (.row 1),.inl sI_,.inl sI_,.inl sU_,.inl sU_]] 18446744073709551616 0)])] f).getD []) [(17,.loopR [.rg 14 sI_] 18446744073709551616 0),(21,.loop [.rg 15 .b,.rg 16 sI_] 18446744073709551616 2)] fun x =>by kernel_rfl
noncomputable def aIl (c:Cfg) (y2:List Int) (l:List EntV):Option ((Bool×Unit)×Unit) :=
 (lpF (axu y2 c) 18446744073709551616 (l,0,())).bind fun s =>
 (aeh c).bind fun r9 =>
 if r9.1.2.1≠0 then (if r9.1.2.1≠0 then some ((false,()),()) else some ((false,()),())) else
 (afW c).bind fun r12 =>
 if c.workers=((2:Nat):Int) then
 (adq 0).bind fun w0 =>
 (adq 1).bind fun w1 =>
 (lpF (apb s.1) 18446744073709551616 (0,r9.1.1,w0.1.1,w1.1.1,r12.1.1,(0,[],0,0,0,0,()),())).bind fun z =>
 (abZ).bind fun r =>
 if (!r.1.1)=true then some ((false,()),()) else
 (lpF (aFV z.2.1.evs) 18446744073709551616 (0,[],z.2.2.2.2.2.1,())).bind fun v =>
 (ajM v.2.1).bind fun h =>
 ari c h.1.1 z.2.1.m
 else none
noncomputable def abS (y0:List Int) (y1:List Int) (y2:List Int):Option ((Bool×Unit)×(Unit)) :=
 (apY y0 ([y2])).bind fun r1 =>
 if (!r1.1.1)=true then some ((true,()),()) else
 if 600<((y1.length:Nat):Int) then some ((true,()),()) else
 (agc y0).bind fun r2 =>
 agr (cg9 r2.1.1 (
 (aaI r2.1.1).bind fun r3 =>
 if 0≤ac0 r2.1.1 y1∧ac0 r2.1.1 y1≤((r3.1.1.length:Nat):Int) then
 if (((([]:List EntV).length+(r3.1.1.take (ac0 r2.1.1 y1:Int).toNat).length:Nat)):Int)<1000000000000 then
 (ag2 y1 300).bind fun r4 =>
 if ((((([])++(r3.1.1.take (ac0 r2.1.1 y1:Int).toNat)).length+r4.1.1.length:Nat)):Int)<1000000000000 then
 aIl r2.1.1 y2 ((([])++(r3.1.1.take (ac0 r2.1.1 y1:Int).toNat))++r4.1.1)
 else none
 else none
 else none
 )) (
 (aaI r2.1.1).bind fun r3 =>
 if 0≤ac0 r2.1.1 y1∧ac0 r2.1.1 y1≤((r3.1.1.length:Nat):Int) then cg9 r2.1.1 (
 if (((([]:List EntV).length+(r3.1.1.take (ac0 r2.1.1 y1:Int).toNat).length:Nat)):Int)<1000000000000 then
 (ag2 y1 300).bind fun r4 =>
 if ((((([])++(r3.1.1.take (ac0 r2.1.1 y1:Int).toNat)).length+r4.1.1.length:Nat)):Int)<1000000000000 then
 aIl r2.1.1 y2 ((([])++(r3.1.1.take (ac0 r2.1.1 y1:Int).toNat))++r4.1.1)
 else none
 else none)
 else none
 )
noncomputable abbrev agv:Con SR1:=⟨3,[.sh (.ro 17),.sh (.ro 17),.sh (.ro 1)],[.sh .b],fun x =>abS x.1 x.2.1 x.2.2.1⟩
noncomputable def af4:List (Nat×Func):=[(6,Tryz.f6),(20,Tryz.f20),(35,Tryz.f35),(58,Tryz.f58),(36,Tryz.f36),(21,Tryz.f21),(9,Tryz.f9),(10,Tryz.f10)]
theorem af5:CO Tryz.prog agv:=aak aaj Tryz.func3 [aml,ahY,abr,ajG,acs,aeO,afq,afh,ab3,ads,acm,acg,ac2,ady,acl,ab9,ah2,acP,afN,ag0,aca,acr,abV] ⟨amk,ahX,abW,akg,ac7,ae1,afV,afH,act,adL,acT,acJ,adx,adO,acO,acV,ah1,adn,agC,ahg,acW,ac4,acv,trivial⟩ af4 ⟨Tryz.func6,Tryz.func20,Tryz.func35,Tryz.func58,Tryz.func36,Tryz.func21,Tryz.func9,Tryz.func10,trivial⟩ (fun f =>(get [(6,[(4,.loop [.rg 7 (.row 5),.rg 8 sI_] 18446744073709551616 0)]),(35,[(6,.spl 22 [2] 3)]),(58,[(2,.unroll 3)]),(36,[(1,.loop [.rg 8 sI_,.ob 50 27,.ob 64 31,.ob 78 31,.ob 52 30,.cx 53 [.inr (.ptr 50 0),.inr (.sl 80),.inr (.ptr 52 0),.inr (.sl 109),.inl sI_,.inl (.row 1),.inl sI_,.inl sI_,.inl sU_,.inl sU_]] 18446744073709551616 0)]),(21,[(9,.cut [.ob 50 27,.ob 64 31,.ob 78 31,.ob 52 30,.cx 53 [.inr (.ptr 50 0),.inr (.sl 80),.inr (.ptr 52 0),.inr (.sl 109),.inl sI_,.inl (.row 1),.inl sI_,.inl sI_,.inl sU_,.inl sU_]] [0,1,2,3,14,15,112,113,114]),(12,.loop [.ob 50 27,.cx 53 [.inr (.ptr 50 0),.inr (.sl 80),.inr (.ptr 52 0),.inr (.sl 109),.inl sI_,.inl (.row 1),.inl sI_,.inl sI_,.inl sU_,.inl sU_]] 18446744073709551616 1)]),(9,[(3,.loop [.rg 14 sI_,.rg 3 (.row 6),.cx 53 [.inr (.ptr 50 0),.inr (.sl 80),.inr (.ptr 52 0),.inr (.sl 109),.inl sI_,.inl (.row 1),.inl sI_,.inl sI_,.inl sU_,.inl sU_]] 18446744073709551616 0)])] f).getD []) [(17,.loopR [.rg 14 sI_] 18446744073709551616 0),(21,.loop [.rg 15 .b,.rg 16 sI_] 18446744073709551616 2)] fun x =>by kernel_rfl
noncomputable def aIk (c:Cfg) (y2:List Int) (l:List EntV):Option ((Bool×Unit)×Unit) :=
 (lpF (axu y2 c) 18446744073709551616 (l,0,())).bind fun s =>
 (aeh c).bind fun r9 =>
 if r9.1.2.1≠0 then (if r9.1.2.1≠0 then some ((false,()),()) else some ((false,()),())) else
 (afW c).bind fun r12 =>
 if c.workers=((3:Nat):Int) then
 (adq 0).bind fun w0 =>
 (adq 1).bind fun w1 =>
 (adq 2).bind fun w2 =>
 (lpF (apa s.1) 18446744073709551616 (0,r9.1.1,w0.1.1,w1.1.1,w2.1.1,r12.1.1,(0,[],0,0,0,0,()),())).bind fun z =>
 (abZ).bind fun r =>
 if (!r.1.1)=true then some ((false,()),()) else
 (lpF (aFV z.2.1.evs) 18446744073709551616 (0,[],z.2.2.2.2.2.2.1,())).bind fun v =>
 (ajM v.2.1).bind fun h =>
 ari c h.1.1 z.2.1.m
 else none
noncomputable def abR (y0:List Int) (y1:List Int) (y2:List Int):Option ((Bool×Unit)×(Unit)) :=
 (apY y0 ([y2])).bind fun r1 =>
 if (!r1.1.1)=true then some ((true,()),()) else
 if 600<((y1.length:Nat):Int) then some ((true,()),()) else
 (agc y0).bind fun r2 =>
 agr (cg9 r2.1.1 (
 (aaI r2.1.1).bind fun r3 =>
 if 0≤ac0 r2.1.1 y1∧ac0 r2.1.1 y1≤((r3.1.1.length:Nat):Int) then
 if (((([]:List EntV).length+(r3.1.1.take (ac0 r2.1.1 y1:Int).toNat).length:Nat)):Int)<1000000000000 then
 (ag2 y1 300).bind fun r4 =>
 if ((((([])++(r3.1.1.take (ac0 r2.1.1 y1:Int).toNat)).length+r4.1.1.length:Nat)):Int)<1000000000000 then
 aIk r2.1.1 y2 ((([])++(r3.1.1.take (ac0 r2.1.1 y1:Int).toNat))++r4.1.1)
 else none
 else none
 else none
 )) (
 (aaI r2.1.1).bind fun r3 =>
 if 0≤ac0 r2.1.1 y1∧ac0 r2.1.1 y1≤((r3.1.1.length:Nat):Int) then cg9 r2.1.1 (
 if (((([]:List EntV).length+(r3.1.1.take (ac0 r2.1.1 y1:Int).toNat).length:Nat)):Int)<1000000000000 then
 (ag2 y1 300).bind fun r4 =>
 if ((((([])++(r3.1.1.take (ac0 r2.1.1 y1:Int).toNat)).length+r4.1.1.length:Nat)):Int)<1000000000000 then
 aIk r2.1.1 y2 ((([])++(r3.1.1.take (ac0 r2.1.1 y1:Int).toNat))++r4.1.1)
 else none
 else none)
 else none
 )
noncomputable abbrev agu:Con SR1:=⟨3,[.sh (.ro 17),.sh (.ro 17),.sh (.ro 1)],[.sh .b],fun x =>abR x.1 x.2.1 x.2.2.1⟩
noncomputable def af2:List (Nat×Func):=[(6,Tryz.f6),(20,Tryz.f20),(35,Tryz.f35),(58,Tryz.f58),(36,Tryz.f36),(21,Tryz.f21),(9,Tryz.f9),(10,Tryz.f10)]
theorem af3:CO Tryz.prog agu:=aak aaj Tryz.func3 [aml,ahY,abr,ajG,acs,aeO,afq,afh,ab3,ads,acm,acg,ac2,ady,acl,ab9,ah2,acP,afN,ag0,aca,acr,abV] ⟨amk,ahX,abW,akg,ac7,ae1,afV,afH,act,adL,acT,acJ,adx,adO,acO,acV,ah1,adn,agC,ahg,acW,ac4,acv,trivial⟩ af2 ⟨Tryz.func6,Tryz.func20,Tryz.func35,Tryz.func58,Tryz.func36,Tryz.func21,Tryz.func9,Tryz.func10,trivial⟩ (fun f =>(get [(6,[(4,.loop [.rg 7 (.row 5),.rg 8 sI_] 18446744073709551616 0)]),(35,[(6,.spl 22 [3] 4)]),(58,[(2,.unroll 4)]),(36,[(1,.loop [.rg 8 sI_,.ob 50 27,.ob 64 31,.ob 78 31,.ob 92 31,.ob 52 30,.cx 53 [.inr (.ptr 50 0),.inr (.sl 94),.inr (.ptr 52 0),.inr (.sl 126),.inl sI_,.inl (.row 1),.inl sI_,.inl sI_,.inl sU_,.inl sU_]] 18446744073709551616 0)]),(21,[(9,.cut [.ob 50 27,.ob 64 31,.ob 78 31,.ob 92 31,.ob 52 30,.cx 53 [.inr (.ptr 50 0),.inr (.sl 94),.inr (.ptr 52 0),.inr (.sl 126),.inl sI_,.inl (.row 1),.inl sI_,.inl sI_,.inl sU_,.inl sU_]] [0,1,2,3,14,15,129,130,131]),(12,.loop [.ob 50 27,.cx 53 [.inr (.ptr 50 0),.inr (.sl 94),.inr (.ptr 52 0),.inr (.sl 126),.inl sI_,.inl (.row 1),.inl sI_,.inl sI_,.inl sU_,.inl sU_]] 18446744073709551616 1)]),(9,[(3,.loop [.rg 14 sI_,.rg 3 (.row 6),.cx 53 [.inr (.ptr 50 0),.inr (.sl 94),.inr (.ptr 52 0),.inr (.sl 126),.inl sI_,.inl (.row 1),.inl sI_,.inl sI_,.inl sU_,.inl sU_]] 18446744073709551616 0)])] f).getD []) [(17,.loopR [.rg 14 sI_] 18446744073709551616 0),(21,.loop [.rg 15 .b,.rg 16 sI_] 18446744073709551616 2)] fun x =>by kernel_rfl
noncomputable def aIj (c:Cfg) (y2:List Int) (l:List EntV):Option ((Bool×Unit)×Unit) :=
 (lpF (axu y2 c) 18446744073709551616 (l,0,())).bind fun s =>
 (aeh c).bind fun r9 =>
 if r9.1.2.1≠0 then (if r9.1.2.1≠0 then some ((false,()),()) else some ((false,()),())) else
 (afW c).bind fun r12 =>
 if c.workers=((4:Nat):Int) then
 (adq 0).bind fun w0 =>
 (adq 1).bind fun w1 =>
 (adq 2).bind fun w2 =>
 (adq 3).bind fun w3 =>
 (lpF (ao9 s.1) 18446744073709551616 (0,r9.1.1,w0.1.1,w1.1.1,w2.1.1,w3.1.1,r12.1.1,(0,[],0,0,0,0,()),())).bind fun z =>
 (abZ).bind fun r =>
 if (!r.1.1)=true then some ((false,()),()) else
 (lpF (aFV z.2.1.evs) 18446744073709551616 (0,[],z.2.2.2.2.2.2.2.1,())).bind fun v =>
 (ajM v.2.1).bind fun h =>
 ari c h.1.1 z.2.1.m
 else none
noncomputable def abQ (y0:List Int) (y1:List Int) (y2:List Int):Option ((Bool×Unit)×(Unit)) :=
 (apY y0 ([y2])).bind fun r1 =>
 if (!r1.1.1)=true then some ((true,()),()) else
 if 600<((y1.length:Nat):Int) then some ((true,()),()) else
 (agc y0).bind fun r2 =>
 agr (cg9 r2.1.1 (
 (aaI r2.1.1).bind fun r3 =>
 if 0≤ac0 r2.1.1 y1∧ac0 r2.1.1 y1≤((r3.1.1.length:Nat):Int) then
 if (((([]:List EntV).length+(r3.1.1.take (ac0 r2.1.1 y1:Int).toNat).length:Nat)):Int)<1000000000000 then
 (ag2 y1 300).bind fun r4 =>
 if ((((([])++(r3.1.1.take (ac0 r2.1.1 y1:Int).toNat)).length+r4.1.1.length:Nat)):Int)<1000000000000 then
 aIj r2.1.1 y2 ((([])++(r3.1.1.take (ac0 r2.1.1 y1:Int).toNat))++r4.1.1)
 else none
 else none
 else none
 )) (
 (aaI r2.1.1).bind fun r3 =>
 if 0≤ac0 r2.1.1 y1∧ac0 r2.1.1 y1≤((r3.1.1.length:Nat):Int) then cg9 r2.1.1 (
 if (((([]:List EntV).length+(r3.1.1.take (ac0 r2.1.1 y1:Int).toNat).length:Nat)):Int)<1000000000000 then
 (ag2 y1 300).bind fun r4 =>
 if ((((([])++(r3.1.1.take (ac0 r2.1.1 y1:Int).toNat)).length+r4.1.1.length:Nat)):Int)<1000000000000 then
 aIj r2.1.1 y2 ((([])++(r3.1.1.take (ac0 r2.1.1 y1:Int).toNat))++r4.1.1)
 else none
 else none)
 else none
 )
noncomputable abbrev agt:Con SR1:=⟨3,[.sh (.ro 17),.sh (.ro 17),.sh (.ro 1)],[.sh .b],fun x =>abQ x.1 x.2.1 x.2.2.1⟩
noncomputable def af0:List (Nat×Func):=[(6,Tryz.f6),(20,Tryz.f20),(35,Tryz.f35),(58,Tryz.f58),(36,Tryz.f36),(21,Tryz.f21),(9,Tryz.f9),(10,Tryz.f10)]
theorem af1:CO Tryz.prog agt:=aak aaj Tryz.func3 [aml,ahY,abr,ajG,acs,aeO,afq,afh,ab3,ads,acm,acg,ac2,ady,acl,ab9,ah2,acP,afN,ag0,aca,acr,abV] ⟨amk,ahX,abW,akg,ac7,ae1,afV,afH,act,adL,acT,acJ,adx,adO,acO,acV,ah1,adn,agC,ahg,acW,ac4,acv,trivial⟩ af0 ⟨Tryz.func6,Tryz.func20,Tryz.func35,Tryz.func58,Tryz.func36,Tryz.func21,Tryz.func9,Tryz.func10,trivial⟩ (fun f =>(get [(6,[(4,.loop [.rg 7 (.row 5),.rg 8 sI_] 18446744073709551616 0)]),(35,[(6,.spl 22 [4] 5)]),(58,[(2,.unroll 5)]),(36,[(1,.loop [.rg 8 sI_,.ob 50 27,.ob 64 31,.ob 78 31,.ob 92 31,.ob 106 31,.ob 52 30,.cx 53 [.inr (.ptr 50 0),.inr (.sl 108),.inr (.ptr 52 0),.inr (.sl 143),.inl sI_,.inl (.row 1),.inl sI_,.inl sI_,.inl sU_,.inl sU_]] 18446744073709551616 0)]),(21,[(9,.cut [.ob 50 27,.ob 64 31,.ob 78 31,.ob 92 31,.ob 106 31,.ob 52 30,.cx 53 [.inr (.ptr 50 0),.inr (.sl 108),.inr (.ptr 52 0),.inr (.sl 143),.inl sI_,.inl (.row 1),.inl sI_,.inl sI_,.inl sU_,.inl sU_]] [0,1,2,3,14,15,146,147,148]),(12,.loop [.ob 50 27,.cx 53 [.inr (.ptr 50 0),.inr (.sl 108),.inr (.ptr 52 0),.inr (.sl 143),.inl sI_,.inl (.row 1),.inl sI_,.inl sI_,.inl sU_,.inl sU_]] 18446744073709551616 1)]),(9,[(3,.loop [.rg 14 sI_,.rg 3 (.row 6),.cx 53 [.inr (.ptr 50 0),.inr (.sl 108),.inr (.ptr 52 0),.inr (.sl 143),.inl sI_,.inl (.row 1),.inl sI_,.inl sI_,.inl sU_,.inl sU_]] 18446744073709551616 0)])] f).getD []) [(17,.loopR [.rg 14 sI_] 18446744073709551616 0),(21,.loop [.rg 15 .b,.rg 16 sI_] 18446744073709551616 2)] fun x =>by kernel_rfl
theorem ake {c:Cfg} (h:DecOk c):aaP (aaI c) fun o =>(o.1.1.length:Int)=40*(c.subs.length:Int):=by
 have hs:=h.sn
 have e0:wi (40*((c.subs.length:Nat):Int))=40*(c.subs.length:Int):=aaw (aai (by omega))
 unfold aaI
 refine aaP.bind (P:=fun z =>(z.1.length:Int)=40*(c.subs.length:Int)) (acx (fun x =>0≤x.2.1∧(x.1.length:Int)=x.2.1∧x.2.1≤40*(c.subs.length:Int)) (fun x =>(40*(c.subs.length:Int)-x.2.1).toNat) (fun self x hx ih =>?istep) _ _ ⟨Int.le_refl 0,rfl,by show (0:Int)≤_; omega⟩ (by show (_-0:Int).toNat<_; omega)) fun z hz =>.some_ hz
 case istep =>
  obtain ⟨q0,q1,q2⟩:=hx
  have e1:wi (x.2.1+1)=x.2.1+1:=aaw (aai (by omega))
  rw [e0,e1]
  refine aaP.ite (fun hlt =>?_) fun _ =>.some_ (by show (x.1.length:Int)=_; omega)
  unfold acC
  rw [bnd]
  refine .guard (by simp only [List.length_singleton]; omega) fun _ =>ih _ ⟨by show 0≤x.2.1+1; omega,?_,by show x.2.1+1≤_; omega⟩ (by show (_-(x.2.1+1):Int).toNat<(_-x.2.1:Int).toNat; omega)
  show ((x.1++[_]).length:Int)=x.2.1+1
  rw [List.length_append,List.length_singleton]
  omega
theorem aoF {c:Cfg} (hd:DecOk c) {y:List Int} {l:List EntV} (hy:y.length≤1000000) (hl:l.length≤600):aaP (lpF (axu y c) 18446744073709551616 (l,0,())) fun z =>z.1.length≤8600:=by
 have hw:=hd.w
 refine acx (fun x =>(0≤x.2.1∧x.2.1≤40)∧(x.1.length:Int)≤600+200*x.2.1) (fun x =>(40-x.2.1).toNat) (fun self x hx ih =>?_) _ _ ⟨⟨Int.le_refl 0,by show (0:Int)≤40; omega⟩,by show (l.length:Int)≤600+200*0; omega⟩ (by show (40-0:Int).toNat<_; omega)
 obtain ⟨m,i,⟨⟩⟩:=x
 obtain ⟨⟨q0,q1⟩,q2⟩:=hx
 simp only at q0 q1 q2
 have fin:m.length≤8600:=by omega
 have e1:wi (5*i)=5*i:=aaw (aai (by omega))
 have e2:wi (c.workers+1)=c.workers+1:=aaw (aai (by omega))
 have e3:wi (i+1)=i+1:=aaw (aai (by omega))
 unfold axu
 refine aaP.ite (fun _ =>aaP.ite (fun hlt =>?_) fun _ =>.some_ fin) fun _ =>.some_ fin
 have hlt:i<40:=hlt
 simp only
 rw [e1,e2,e3]
 refine (ayv hy (by omega) (by omega)).bind fun r hr =>.guard (by omega) fun _ =>?_
 refine ih _ ⟨⟨by show 0≤i+1; omega,by show i+1≤40; omega⟩,?_⟩ (by show (40-(i+1):Int).toNat<(40-i:Int).toNat; omega)
 show ((m++r.1.1).length:Int)≤600+200*(i+1)
 rw [List.length_append]
 omega
theorem awN {c:Cfg} (hd:DecOk c) {y1:List Int} (hy:y1.length≤600):0≤ac0 c y1∧ac0 c y1≤40*(c.subs.length:Int):=by
 have hs:=hd.sn
 show 0≤(if wi (40*((c.subs.length:Nat):Int))<wi (3*((y1.length:Nat):Int)) then wi (40*((c.subs.length:Nat):Int)) else wi (3*((y1.length:Nat):Int)))∧(if wi (40*((c.subs.length:Nat):Int))<wi (3*((y1.length:Nat):Int)) then wi (40*((c.subs.length:Nat):Int)) else wi (3*((y1.length:Nat):Int)))≤_
 have e1:wi (40*((c.subs.length:Nat):Int))=40*(c.subs.length:Int):=aaw (aai (by omega))
 have e2:wi (3*((y1.length:Nat):Int))=3*(y1.length:Int):=aaw (aai (by omega))
 rw [e1,e2]
 split<;>omega
theorem akq:abZ=some ((true,()),()):=by kernel_rfl
theorem asH {c:Cfg}:EG 0 (arh c) (0,[],0,0,0,0,()):=⟨rfl,rfl,fun s h =>(by cases h),.nil⟩
theorem azV {c:Cfg} (ho:DecOk c) (hw:c.workers=(((1:Nat):Int))) {y2:List Int} (hy:y2.length≤400) {l:List EntV} (hl:l.length≤600):aaP (aIm c y2 l) fun r =>r.1.1=true:=by
 unfold aIm
 refine (aoF ho (y:=y2) (l:=l) (by omega) hl).bind fun s hs =>?_
 rw [awL (afU ho),bnd,if_neg (fun h =>h rfl),axc ho,bnd,if_pos hw,akI (l:=aaE c) (j:=0),bnd]
 have hw0:∀ (j:Nat) w,[aen (aaE c) 0 ⟨0,0,0,0,.top⟩][j]?=some w→w=aen (aaE c) j ⟨0,0,0,0,.top⟩:=fun j w hj =>by
  match j,hj with
  | 0,hj =>exact (Option.some.inj hj).symm
 have hj:HI c 0 (arh c) [aen (aaE c) 0 ⟨0,0,0,0,.top⟩] (asT c.subs c.workers ⟨0,0,false,.n1⟩):=awW ho hw.symm hw0
 refine (aHz amn (l:=s.1) hj asH (by omega)).bind fun z hz =>?_
 obtain ⟨zi,ze,z0,zc,zg,⟨⟩⟩:=z
 obtain ⟨a1,a2,_⟩:=hz
 have a1:HI c (0+s.1.length) ze [z0] zc:=a1
 have a2:EG (0+s.1.length) ze zg:=a2
 have hev:=amn.ev a1
 rw [akq,bnd,if_neg (by decide)]
 refine (aoQ a2.l (by omega)).bind fun v hv =>?_
 rw [hv.1]
 refine (ar9 a2.l (by omega)).bind fun h hh =>?_
 rw [hh]
 exact alv ho a1 (by omega)
theorem aCn {y0 y1 y2:List Int} {o:(Cfg×Unit)×Unit} (e:agc y0=some o) (ho:DecOk o.1.1) (hw:o.1.1.workers=(((1:Nat):Int))):aaP (abg y0 y1 y2) fun r =>r.1.1=true:=by
 obtain ⟨⟨c,⟨⟩⟩,⟨⟩⟩:=o
 simp only at ho hw
 unfold abg
 refine (ahH y0 [y2] (by simp)).bind fun r hr =>aaP.ite (fun _ =>.some_ rfl) fun hb =>aaP.ite (fun _ =>.some_ rfl) fun hlen =>?_
 have hy:y2.length≤400:=(hr (by cases hq:r.1.1; exact absurd (by rw [hq]; rfl) hb; rfl)).2 y2 (by simp)
 have hy1:y1.length≤600:=by have hlen:¬ 600<((y1.length:Nat):Int):=hlen; omega
 rw [e,bnd]
 simp only [axe,aiP]
 have hm:=awN ho hy1
 have hs:=ho.sn
 refine (ake ho).bind fun r3 h3 =>.guard (by rw [h3]; exact hm) fun _ =>.guard (by rw [List.length_take]; show (((0+min _ _:Nat)):Int)<_; omega) fun _ =>?_
 have ht:(r3.1.1.take (ac0 c y1:Int).toNat).length≤200:=by rw [List.length_take]; omega
 refine (aj5 (b:=y1) (n:=300) (by omega) (by decide)).bind fun r4 h4 =>.guard (by rw [List.nil_append]; have h4:r4.1.1.length≤300:=h4; omega) fun _ =>?_
 exact azV ho hw hy (by rw [List.nil_append,List.length_append]; have h4:r4.1.1.length≤300:=h4; omega)
theorem azU {c:Cfg} (ho:DecOk c) (hw:c.workers=(((2:Nat):Int))) {y2:List Int} (hy:y2.length≤400) {l:List EntV} (hl:l.length≤600):aaP (aIl c y2 l) fun r =>r.1.1=true:=by
 unfold aIl
 refine (aoF ho (y:=y2) (l:=l) (by omega) hl).bind fun s hs =>?_
 rw [awL (afU ho),bnd,if_neg (fun h =>h rfl),axc ho,bnd,if_pos hw,akI (l:=aaE c) (j:=0),bnd,akI (l:=aaE c) (j:=1),bnd]
 have hw0:∀ (j:Nat) w,[aen (aaE c) 0 ⟨0,0,0,0,.top⟩,aen (aaE c) 1 ⟨0,0,0,0,.top⟩][j]?=some w→w=aen (aaE c) j ⟨0,0,0,0,.top⟩:=fun j w hj =>by
  match j,hj with
  | 0,hj =>exact (Option.some.inj hj).symm
  | 1,hj =>exact (Option.some.inj hj).symm
 have hj:HI c 0 (arh c) [aen (aaE c) 0 ⟨0,0,0,0,.top⟩,aen (aaE c) 1 ⟨0,0,0,0,.top⟩] (asT c.subs c.workers ⟨0,0,false,.n1⟩):=awW ho hw.symm hw0
 refine (aHy amn (l:=s.1) hj asH (by omega)).bind fun z hz =>?_
 obtain ⟨zi,ze,z0,z1,zc,zg,⟨⟩⟩:=z
 obtain ⟨a1,a2,_⟩:=hz
 have a1:HI c (0+s.1.length) ze [z0,z1] zc:=a1
 have a2:EG (0+s.1.length) ze zg:=a2
 have hev:=amn.ev a1
 rw [akq,bnd,if_neg (by decide)]
 refine (aoQ a2.l (by omega)).bind fun v hv =>?_
 rw [hv.1]
 refine (ar9 a2.l (by omega)).bind fun h hh =>?_
 rw [hh]
 exact alv ho a1 (by omega)
theorem aCm {y0 y1 y2:List Int} {o:(Cfg×Unit)×Unit} (e:agc y0=some o) (ho:DecOk o.1.1) (hw:o.1.1.workers=(((2:Nat):Int))):aaP (abS y0 y1 y2) fun r =>r.1.1=true:=by
 obtain ⟨⟨c,⟨⟩⟩,⟨⟩⟩:=o
 simp only at ho hw
 unfold abS
 refine (ahH y0 [y2] (by simp)).bind fun r hr =>aaP.ite (fun _ =>.some_ rfl) fun hb =>aaP.ite (fun _ =>.some_ rfl) fun hlen =>?_
 have hy:y2.length≤400:=(hr (by cases hq:r.1.1; exact absurd (by rw [hq]; rfl) hb; rfl)).2 y2 (by simp)
 have hy1:y1.length≤600:=by have hlen:¬ 600<((y1.length:Nat):Int):=hlen; omega
 rw [e,bnd]
 simp only [axe,aiP]
 have hm:=awN ho hy1
 have hs:=ho.sn
 refine (ake ho).bind fun r3 h3 =>.guard (by rw [h3]; exact hm) fun _ =>.guard (by rw [List.length_take]; show (((0+min _ _:Nat)):Int)<_; omega) fun _ =>?_
 have ht:(r3.1.1.take (ac0 c y1:Int).toNat).length≤200:=by rw [List.length_take]; omega
 refine (aj5 (b:=y1) (n:=300) (by omega) (by decide)).bind fun r4 h4 =>.guard (by rw [List.nil_append]; have h4:r4.1.1.length≤300:=h4; omega) fun _ =>?_
 exact azU ho hw hy (by rw [List.nil_append,List.length_append]; have h4:r4.1.1.length≤300:=h4; omega)
theorem azT {c:Cfg} (ho:DecOk c) (hw:c.workers=(((3:Nat):Int))) {y2:List Int} (hy:y2.length≤400) {l:List EntV} (hl:l.length≤600):aaP (aIk c y2 l) fun r =>r.1.1=true:=by
 unfold aIk
 refine (aoF ho (y:=y2) (l:=l) (by omega) hl).bind fun s hs =>?_
 rw [awL (afU ho),bnd,if_neg (fun h =>h rfl),axc ho,bnd,if_pos hw,akI (l:=aaE c) (j:=0),bnd,akI (l:=aaE c) (j:=1),bnd,akI (l:=aaE c) (j:=2),bnd]
 have hw0:∀ (j:Nat) w,[aen (aaE c) 0 ⟨0,0,0,0,.top⟩,aen (aaE c) 1 ⟨0,0,0,0,.top⟩,aen (aaE c) 2 ⟨0,0,0,0,.top⟩][j]?=some w→w=aen (aaE c) j ⟨0,0,0,0,.top⟩:=fun j w hj =>by
  match j,hj with
  | 0,hj =>exact (Option.some.inj hj).symm
  | 1,hj =>exact (Option.some.inj hj).symm
  | 2,hj =>exact (Option.some.inj hj).symm
 have hj:HI c 0 (arh c) [aen (aaE c) 0 ⟨0,0,0,0,.top⟩,aen (aaE c) 1 ⟨0,0,0,0,.top⟩,aen (aaE c) 2 ⟨0,0,0,0,.top⟩] (asT c.subs c.workers ⟨0,0,false,.n1⟩):=awW ho hw.symm hw0
 refine (aHx amn (l:=s.1) hj asH (by omega)).bind fun z hz =>?_
 obtain ⟨zi,ze,z0,z1,z2,zc,zg,⟨⟩⟩:=z
 obtain ⟨a1,a2,_⟩:=hz
 have a1:HI c (0+s.1.length) ze [z0,z1,z2] zc:=a1
 have a2:EG (0+s.1.length) ze zg:=a2
 have hev:=amn.ev a1
 rw [akq,bnd,if_neg (by decide)]
 refine (aoQ a2.l (by omega)).bind fun v hv =>?_
 rw [hv.1]
 refine (ar9 a2.l (by omega)).bind fun h hh =>?_
 rw [hh]
 exact alv ho a1 (by omega)
theorem aCl {y0 y1 y2:List Int} {o:(Cfg×Unit)×Unit} (e:agc y0=some o) (ho:DecOk o.1.1) (hw:o.1.1.workers=(((3:Nat):Int))):aaP (abR y0 y1 y2) fun r =>r.1.1=true:=by
 obtain ⟨⟨c,⟨⟩⟩,⟨⟩⟩:=o
 simp only at ho hw
 unfold abR
 refine (ahH y0 [y2] (by simp)).bind fun r hr =>aaP.ite (fun _ =>.some_ rfl) fun hb =>aaP.ite (fun _ =>.some_ rfl) fun hlen =>?_
 have hy:y2.length≤400:=(hr (by cases hq:r.1.1; exact absurd (by rw [hq]; rfl) hb; rfl)).2 y2 (by simp)
 have hy1:y1.length≤600:=by have hlen:¬ 600<((y1.length:Nat):Int):=hlen; omega
 rw [e,bnd]
 simp only [axe,aiP]
 have hm:=awN ho hy1
 have hs:=ho.sn
 refine (ake ho).bind fun r3 h3 =>.guard (by rw [h3]; exact hm) fun _ =>.guard (by rw [List.length_take]; show (((0+min _ _:Nat)):Int)<_; omega) fun _ =>?_
 have ht:(r3.1.1.take (ac0 c y1:Int).toNat).length≤200:=by rw [List.length_take]; omega
 refine (aj5 (b:=y1) (n:=300) (by omega) (by decide)).bind fun r4 h4 =>.guard (by rw [List.nil_append]; have h4:r4.1.1.length≤300:=h4; omega) fun _ =>?_
 exact azT ho hw hy (by rw [List.nil_append,List.length_append]; have h4:r4.1.1.length≤300:=h4; omega)
theorem azS {c:Cfg} (ho:DecOk c) (hw:c.workers=(((4:Nat):Int))) {y2:List Int} (hy:y2.length≤400) {l:List EntV} (hl:l.length≤600):aaP (aIj c y2 l) fun r =>r.1.1=true:=by
 unfold aIj
 refine (aoF ho (y:=y2) (l:=l) (by omega) hl).bind fun s hs =>?_
 rw [awL (afU ho),bnd,if_neg (fun h =>h rfl),axc ho,bnd,if_pos hw,akI (l:=aaE c) (j:=0),bnd,akI (l:=aaE c) (j:=1),bnd,akI (l:=aaE c) (j:=2),bnd,akI (l:=aaE c) (j:=3),bnd]
 have hw0:∀ (j:Nat) w,[aen (aaE c) 0 ⟨0,0,0,0,.top⟩,aen (aaE c) 1 ⟨0,0,0,0,.top⟩,aen (aaE c) 2 ⟨0,0,0,0,.top⟩,aen (aaE c) 3 ⟨0,0,0,0,.top⟩][j]?=some w→w=aen (aaE c) j ⟨0,0,0,0,.top⟩:=fun j w hj =>by
  match j,hj with
  | 0,hj =>exact (Option.some.inj hj).symm
  | 1,hj =>exact (Option.some.inj hj).symm
  | 2,hj =>exact (Option.some.inj hj).symm
  | 3,hj =>exact (Option.some.inj hj).symm
 have hj:HI c 0 (arh c) [aen (aaE c) 0 ⟨0,0,0,0,.top⟩,aen (aaE c) 1 ⟨0,0,0,0,.top⟩,aen (aaE c) 2 ⟨0,0,0,0,.top⟩,aen (aaE c) 3 ⟨0,0,0,0,.top⟩] (asT c.subs c.workers ⟨0,0,false,.n1⟩):=awW ho hw.symm hw0
 refine (aHw amn (l:=s.1) hj asH (by omega)).bind fun z hz =>?_
 obtain ⟨zi,ze,z0,z1,z2,z3,zc,zg,⟨⟩⟩:=z
 obtain ⟨a1,a2,_⟩:=hz
 have a1:HI c (0+s.1.length) ze [z0,z1,z2,z3] zc:=a1
 have a2:EG (0+s.1.length) ze zg:=a2
 have hev:=amn.ev a1
 rw [akq,bnd,if_neg (by decide)]
 refine (aoQ a2.l (by omega)).bind fun v hv =>?_
 rw [hv.1]
 refine (ar9 a2.l (by omega)).bind fun h hh =>?_
 rw [hh]
 exact alv ho a1 (by omega)
theorem aCk {y0 y1 y2:List Int} {o:(Cfg×Unit)×Unit} (e:agc y0=some o) (ho:DecOk o.1.1) (hw:o.1.1.workers=(((4:Nat):Int))):aaP (abQ y0 y1 y2) fun r =>r.1.1=true:=by
 obtain ⟨⟨c,⟨⟩⟩,⟨⟩⟩:=o
 simp only at ho hw
 unfold abQ
 refine (ahH y0 [y2] (by simp)).bind fun r hr =>aaP.ite (fun _ =>.some_ rfl) fun hb =>aaP.ite (fun _ =>.some_ rfl) fun hlen =>?_
 have hy:y2.length≤400:=(hr (by cases hq:r.1.1; exact absurd (by rw [hq]; rfl) hb; rfl)).2 y2 (by simp)
 have hy1:y1.length≤600:=by have hlen:¬ 600<((y1.length:Nat):Int):=hlen; omega
 rw [e,bnd]
 simp only [axe,aiP]
 have hm:=awN ho hy1
 have hs:=ho.sn
 refine (ake ho).bind fun r3 h3 =>.guard (by rw [h3]; exact hm) fun _ =>.guard (by rw [List.length_take]; show (((0+min _ _:Nat)):Int)<_; omega) fun _ =>?_
 have ht:(r3.1.1.take (ac0 c y1:Int).toNat).length≤200:=by rw [List.length_take]; omega
 refine (aj5 (b:=y1) (n:=300) (by omega) (by decide)).bind fun r4 h4 =>.guard (by rw [List.nil_append]; have h4:r4.1.1.length≤300:=h4; omega) fun _ =>?_
 exact azS ho hw hy (by rw [List.nil_append,List.length_append]; have h4:r4.1.1.length≤300:=h4; omega)
theorem aHN {y0 y1 y2:List Int} (hb:∀ x∈y0,0≤x∧x≤255) :
  aaP (abg y0 y1 y2) (fun r =>r.1.1=true)∨aaP (abS y0 y1 y2) (fun r =>r.1.1=true)∨aaP (abR y0 y1 y2) (fun r =>r.1.1=true)∨aaP (abQ y0 y1 y2) (fun r =>r.1.1=true):=by
 by_cases hl:y0.length≤400
 ·obtain ⟨o,e,ho⟩:=avI hb (by omega)
  have hw:=ho.w
  have hv:o.1.1.workers=((1:Nat):Int)∨o.1.1.workers=((2:Nat):Int)∨o.1.1.workers=((3:Nat):Int)∨o.1.1.workers=((4:Nat):Int):=by omega
  rcases hv with h | h | h | h
  ·exact .inl (aCn e ho h)
  ·exact .inr (.inl (aCm e ho h))
  ·exact .inr (.inr (.inl (aCl e ho h)))
  ·exact .inr (.inr (.inr (aCk e ho h)))
 ·refine .inl ?_
  unfold abg
  refine (ahH y0 [y2] (by simp)).bind fun r hr =>aaP.ite (fun _ =>.some_ rfl) fun h =>?_
  exfalso
  have h1:r.1.1=true:=by revert h; cases r.1.1<;>simp
  exact hl (hr h1).1
end
end Go.Proofs.YtdnimkpfgjcjeaaGreat
