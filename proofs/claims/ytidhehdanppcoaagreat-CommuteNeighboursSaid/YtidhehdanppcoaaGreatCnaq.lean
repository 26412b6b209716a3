/- An engine's loops,Done and Events by names. An engine's loops,for any invariant of its machines. An engine's loops,for any invariant of its machines and every number of workers. perform and Canonical by names. The sanity check,by its value. CommuteNeighbours' own loops by names. perform and Canonical by names. CommuteNeighbours by names. CommuteNeighbours by names. perform and Canonical by names. CommuteNeighbours by names. perform and Canonical by names. CommuteNeighbours by names. -/
import Derived.Test.YtidhehdanppcoaaGreatCnap
import Derived.Test.YtidhehdanppcoaaGreatCnao
set_option linter.all false
namespace Go.Proofs.YtidhehdanppcoaaGreat
section
open Go Go.RowKit
set_option maxRecDepth 100000
variable [Tb]
abbrev ain:=Int×List Int×Int×Int×Int×Int×Unit
noncomputable def aea {σ:Type} (c0:Int) (env:EnvP) (eng:ain) (self:EnvP→ain→Option σ):Option σ :=
 (aaD env.m).bind fun r22 =>
 if c0<r22.1.1 then
 (agV r22.2.1).bind fun r23 =>
 (lpF (σ:=EnvP×(Int×List Int×Int×Int×Int×Int×Unit)×Unit) (β:=EnvP×(Int×List Int×Int×Int×Int×Int×Unit)×Unit) (fun self26 x24 =>
 if ((x24.2.1.2.1.length:Nat):Int)<((x24.1.evs.length:Nat):Int) then
 if (((x24.2.1.2.1.length+([x24.2.1.1]:List Int).length:Nat)):Int)<1000000000000 then
 self26 (x24.1,(x24.2.1.1,x24.2.1.2.1++([x24.2.1.1]),x24.2.1.2.2.1,x24.2.1.2.2.2.1,x24.2.1.2.2.2.2.1,x24.2.1.2.2.2.2.2.1,()),())
 else none
 else
 some (x24.1,x24.2.1,())
 ) 18446744073709551616 (({ env with m:=r23.2.1 }:EnvP),(eng.1,eng.2.1,r23.1.1.kind,r23.1.1.cell,r23.1.1.old,r23.1.1.new,()),())).bind fun z25 =>
 self z25.1 (wi (z25.2.1.1+1),z25.2.1.2.1,z25.2.1.2.2.1,z25.2.1.2.2.2.1,z25.2.1.2.2.2.2.1,z25.2.1.2.2.2.2.2.1,())
 else
 (lpF (σ:=EnvP×(Int×List Int×Int×Int×Int×Int×Unit)×Unit) (β:=EnvP×(Int×List Int×Int×Int×Int×Int×Unit)×Unit) (fun self29 x27 =>
 if ((x27.2.1.2.1.length:Nat):Int)<((x27.1.evs.length:Nat):Int) then
 if (((x27.2.1.2.1.length+([x27.2.1.1]:List Int).length:Nat)):Int)<1000000000000 then
 self29 (x27.1,(x27.2.1.1,x27.2.1.2.1++([x27.2.1.1]),x27.2.1.2.2.1,x27.2.1.2.2.2.1,x27.2.1.2.2.2.2.1,x27.2.1.2.2.2.2.2.1,()),())
 else none
 else
 some (x27.1,x27.2.1,())
 ) 18446744073709551616 (({ env with m:=r22.2.1 }:EnvP),(eng.1,eng.2.1,0,0,0,0,()),())).bind fun z28 =>
 self z28.1 (wi (z28.2.1.1+1),z28.2.1.2.1,z28.2.1.2.2.1,z28.2.1.2.2.2.1,z28.2.1.2.2.2.2.1,z28.2.1.2.2.2.2.2.1,())
abbrev ajg:=Int×EnvP×(WorkerV MV)×(ClientV MV)×(Int×List Int×Int×Int×Int×Int×Unit)×Unit
noncomputable def ahB (l:List EntV) (x12:ajg) (r15:(Int×Unit)×(MemV×Unit)) :=
 ((
 if ((asz l x12.1).kind)=0 then
 (acV (asz l x12.1) 2).bind fun r16 =>
 if r16.1.1=((1:Nat):Int) then
 (aaq x12.2.2.2.1 ({ x12.2.1 with m:=r15.2.1 }:EnvP)).bind fun r17 =>
 some (r17.2.2.1,x12.2.2.1,r17.2.1,x12.2.2.2.2.1,())
 else
 if r16.1.1=((0:Nat):Int) then
 (aag x12.2.2.1 ({ x12.2.1 with m:=r15.2.1 }:EnvP)).bind fun r18 =>
 some (r18.2.2.1,r18.2.1,x12.2.2.2.1,x12.2.2.2.2.1,())
 else
 none
 else
 if ((asz l x12.1).kind)=1 then
 (ae6 x12.2.1.k).bind fun r19 =>
 some (({ x12.2.1 with m:=r15.2.1,k:=r19.2.1 }:EnvP),x12.2.2.1,x12.2.2.2.1,x12.2.2.2.2.1,())
 else
 if ((asz l x12.1).kind)=2 then
 (afZ x12.2.1.k ((asz l x12.1).value)).bind fun r20 =>
 some (({ x12.2.1 with m:=r15.2.1,k:=r20.2.1 }:EnvP),x12.2.2.1,x12.2.2.2.1,x12.2.2.2.2.1,())
 else
 some (({ x12.2.1 with m:=r15.2.1 }:EnvP),x12.2.2.1,x12.2.2.2.1,x12.2.2.2.2.1,())
 ):Option (EnvP×(WorkerV MV)×(ClientV MV)×(Int×List Int×Int×Int×Int×Int×Unit)×Unit))
noncomputable def amt (l:List EntV) (self14:ajg→Option (ajg)) (x12:ajg):Option (ajg) :=
 if x12.1<((l.length:Nat):Int) then
 if 0≤x12.1∧x12.1<((l.length:Nat):Int) then
 (aaD x12.2.1.m).bind fun r15 =>
 (ahB l x12 r15).bind fun z21 =>
 aea r15.1.1 z21.1 z21.2.2.2.1 (fun e g =>self14 (wi (x12.1+1),e,z21.2.1,z21.2.2.1,g,()))
 else none
 else
 some (x12.1,x12.2.1,x12.2.2.1,x12.2.2.2.1,x12.2.2.2.2.1,())
abbrev ajf:=Int×EnvP×(WorkerV MV)×(WorkerV MV)×(ClientV MV)×(Int×List Int×Int×Int×Int×Int×Unit)×Unit
noncomputable def ahA (l:List EntV) (x13:ajf) (r16:(Int×Unit)×(MemV×Unit)) :=
 ((
 if ((asz l x13.1).kind)=0 then
 (acV (asz l x13.1) 3).bind fun r17 =>
 if r17.1.1=((2:Nat):Int) then
 (aaq x13.2.2.2.2.1 ({ x13.2.1 with m:=r16.2.1 }:EnvP)).bind fun r18 =>
 some (r18.2.2.1,x13.2.2.1,x13.2.2.2.1,r18.2.1,x13.2.2.2.2.2.1,())
 else
 if r17.1.1=((1:Nat):Int) then
 (aag x13.2.2.2.1 ({ x13.2.1 with m:=r16.2.1 }:EnvP)).bind fun r19 =>
 some (r19.2.2.1,x13.2.2.1,r19.2.1,x13.2.2.2.2.1,x13.2.2.2.2.2.1,())
 else
 if r17.1.1=((0:Nat):Int) then
 (aag x13.2.2.1 ({ x13.2.1 with m:=r16.2.1 }:EnvP)).bind fun r20 =>
 some (r20.2.2.1,r20.2.1,x13.2.2.2.1,x13.2.2.2.2.1,x13.2.2.2.2.2.1,())
 else
 none
 else
 if ((asz l x13.1).kind)=1 then
 (ae6 x13.2.1.k).bind fun r21 =>
 some (({ x13.2.1 with m:=r16.2.1,k:=r21.2.1 }:EnvP),x13.2.2.1,x13.2.2.2.1,x13.2.2.2.2.1,x13.2.2.2.2.2.1,())
 else
 if ((asz l x13.1).kind)=2 then
 (afZ x13.2.1.k ((asz l x13.1).value)).bind fun r22 =>
 some (({ x13.2.1 with m:=r16.2.1,k:=r22.2.1 }:EnvP),x13.2.2.1,x13.2.2.2.1,x13.2.2.2.2.1,x13.2.2.2.2.2.1,())
 else
 some (({ x13.2.1 with m:=r16.2.1 }:EnvP),x13.2.2.1,x13.2.2.2.1,x13.2.2.2.2.1,x13.2.2.2.2.2.1,())
 ):Option (EnvP×(WorkerV MV)×(WorkerV MV)×(ClientV MV)×(Int×List Int×Int×Int×Int×Int×Unit)×Unit))
noncomputable def ams (l:List EntV) (self15:ajf→Option (ajf)) (x13:ajf):Option (ajf) :=
 if x13.1<((l.length:Nat):Int) then
 if 0≤x13.1∧x13.1<((l.length:Nat):Int) then
 (aaD x13.2.1.m).bind fun r16 =>
 (ahA l x13 r16).bind fun z23 =>
 aea r16.1.1 z23.1 z23.2.2.2.2.1 (fun e g =>self15 (wi (x13.1+1),e,z23.2.1,z23.2.2.1,z23.2.2.2.1,g,()))
 else none
 else
 some (x13.1,x13.2.1,x13.2.2.1,x13.2.2.2.1,x13.2.2.2.2.1,x13.2.2.2.2.2.1,())
abbrev aje:=Int×EnvP×(WorkerV MV)×(WorkerV MV)×(WorkerV MV)×(ClientV MV)×(Int×List Int×Int×Int×Int×Int×Unit)×Unit
noncomputable def ahz (l:List EntV) (x14:aje) (r17:(Int×Unit)×(MemV×Unit)) :=
 ((
 if ((asz l x14.1).kind)=0 then
 (acV (asz l x14.1) 4).bind fun r18 =>
 if r18.1.1=((3:Nat):Int) then
 (aaq x14.2.2.2.2.2.1 ({ x14.2.1 with m:=r17.2.1 }:EnvP)).bind fun r19 =>
 some (r19.2.2.1,x14.2.2.1,x14.2.2.2.1,x14.2.2.2.2.1,r19.2.1,x14.2.2.2.2.2.2.1,())
 else
 if r18.1.1=((2:Nat):Int) then
 (aag x14.2.2.2.2.1 ({ x14.2.1 with m:=r17.2.1 }:EnvP)).bind fun r20 =>
 some (r20.2.2.1,x14.2.2.1,x14.2.2.2.1,r20.2.1,x14.2.2.2.2.2.1,x14.2.2.2.2.2.2.1,())
 else
 if r18.1.1=((1:Nat):Int) then
 (aag x14.2.2.2.1 ({ x14.2.1 with m:=r17.2.1 }:EnvP)).bind fun r21 =>
 some (r21.2.2.1,x14.2.2.1,r21.2.1,x14.2.2.2.2.1,x14.2.2.2.2.2.1,x14.2.2.2.2.2.2.1,())
 else
 if r18.1.1=((0:Nat):Int) then
 (aag x14.2.2.1 ({ x14.2.1 with m:=r17.2.1 }:EnvP)).bind fun r22 =>
 some (r22.2.2.1,r22.2.1,x14.2.2.2.1,x14.2.2.2.2.1,x14.2.2.2.2.2.1,x14.2.2.2.2.2.2.1,())
 else
 none
 else
 if ((asz l x14.1).kind)=1 then
 (ae6 x14.2.1.k).bind fun r23 =>
 some (({ x14.2.1 with m:=r17.2.1,k:=r23.2.1 }:EnvP),x14.2.2.1,x14.2.2.2.1,x14.2.2.2.2.1,x14.2.2.2.2.2.1,x14.2.2.2.2.2.2.1,())
 else
 if ((asz l x14.1).kind)=2 then
 (afZ x14.2.1.k ((asz l x14.1).value)).bind fun r24 =>
 some (({ x14.2.1 with m:=r17.2.1,k:=r24.2.1 }:EnvP),x14.2.2.1,x14.2.2.2.1,x14.2.2.2.2.1,x14.2.2.2.2.2.1,x14.2.2.2.2.2.2.1,())
 else
 some (({ x14.2.1 with m:=r17.2.1 }:EnvP),x14.2.2.1,x14.2.2.2.1,x14.2.2.2.2.1,x14.2.2.2.2.2.1,x14.2.2.2.2.2.2.1,())
 ):Option (EnvP×(WorkerV MV)×(WorkerV MV)×(WorkerV MV)×(ClientV MV)×(Int×List Int×Int×Int×Int×Int×Unit)×Unit))
noncomputable def amr (l:List EntV) (self16:aje→Option (aje)) (x14:aje):Option (aje) :=
 if x14.1<((l.length:Nat):Int) then
 if 0≤x14.1∧x14.1<((l.length:Nat):Int) then
 (aaD x14.2.1.m).bind fun r17 =>
 (ahz l x14 r17).bind fun z25 =>
 aea r17.1.1 z25.1 z25.2.2.2.2.2.1 (fun e g =>self16 (wi (x14.1+1),e,z25.2.1,z25.2.2.1,z25.2.2.2.1,z25.2.2.2.2.1,g,()))
 else none
 else
 some (x14.1,x14.2.1,x14.2.2.1,x14.2.2.2.1,x14.2.2.2.2.1,x14.2.2.2.2.2.1,x14.2.2.2.2.2.2.1,())
abbrev ajd:=Int×EnvP×(WorkerV MV)×(WorkerV MV)×(WorkerV MV)×(WorkerV MV)×(ClientV MV)×(Int×List Int×Int×Int×Int×Int×Unit)×Unit
noncomputable def ahy (l:List EntV) (x15:ajd) (r18:(Int×Unit)×(MemV×Unit)) :=
 ((
 if ((asz l x15.1).kind)=0 then
 (acV (asz l x15.1) 5).bind fun r19 =>
 if r19.1.1=((4:Nat):Int) then
 (aaq x15.2.2.2.2.2.2.1 ({ x15.2.1 with m:=r18.2.1 }:EnvP)).bind fun r20 =>
 some (r20.2.2.1,x15.2.2.1,x15.2.2.2.1,x15.2.2.2.2.1,x15.2.2.2.2.2.1,r20.2.1,x15.2.2.2.2.2.2.2.1,())
 else
 if r19.1.1=((3:Nat):Int) then
 (aag x15.2.2.2.2.2.1 ({ x15.2.1 with m:=r18.2.1 }:EnvP)).bind fun r21 =>
 some (r21.2.2.1,x15.2.2.1,x15.2.2.2.1,x15.2.2.2.2.1,r21.2.1,x15.2.2.2.2.2.2.1,x15.2.2.2.2.2.2.2.1,())
 else
 if r19.1.1=((2:Nat):Int) then
 (aag x15.2.2.2.2.1 ({ x15.2.1 with m:=r18.2.1 }:EnvP)).bind fun r22 =>
 some (r22.2.2.1,x15.2.2.1,x15.2.2.2.1,r22.2.1,x15.2.2.2.2.2.1,x15.2.2.2.2.2.2.1,x15.2.2.2.2.2.2.2.1,())
 else
 if r19.1.1=((1:Nat):Int) then
 (aag x15.2.2.2.1 ({ x15.2.1 with m:=r18.2.1 }:EnvP)).bind fun r23 =>
 some (r23.2.2.1,x15.2.2.1,r23.2.1,x15.2.2.2.2.1,x15.2.2.2.2.2.1,x15.2.2.2.2.2.2.1,x15.2.2.2.2.2.2.2.1,())
 else
 if r19.1.1=((0:Nat):Int) then
 (aag x15.2.2.1 ({ x15.2.1 with m:=r18.2.1 }:EnvP)).bind fun r24 =>
 some (r24.2.2.1,r24.2.1,x15.2.2.2.1,x15.2.2.2.2.1,x15.2.2.2.2.2.1,x15.2.2.2.2.2.2.1,x15.2.2.2.2.2.2.2.1,())
 else
 none
 else
 if ((asz l x15.1).kind)=1 then
 (ae6 x15.2.1.k).bind fun r25 =>
 some (({ x15.2.1 with m:=r18.2.1,k:=r25.2.1 }:EnvP),x15.2.2.1,x15.2.2.2.1,x15.2.2.2.2.1,x15.2.2.2.2.2.1,x15.2.2.2.2.2.2.1,x15.2.2.2.2.2.2.2.1,())
 else
 if ((asz l x15.1).kind)=2 then
 (afZ x15.2.1.k ((asz l x15.1).value)).bind fun r26 =>
 some (({ x15.2.1 with m:=r18.2.1,k:=r26.2.1 }:EnvP),x15.2.2.1,x15.2.2.2.1,x15.2.2.2.2.1,x15.2.2.2.2.2.1,x15.2.2.2.2.2.2.1,x15.2.2.2.2.2.2.2.1,())
 else
 some (({ x15.2.1 with m:=r18.2.1 }:EnvP),x15.2.2.1,x15.2.2.2.1,x15.2.2.2.2.1,x15.2.2.2.2.2.1,x15.2.2.2.2.2.2.1,x15.2.2.2.2.2.2.2.1,())
 ):Option (EnvP×(WorkerV MV)×(WorkerV MV)×(WorkerV MV)×(WorkerV MV)×(ClientV MV)×(Int×List Int×Int×Int×Int×Int×Unit)×Unit))
noncomputable def amq (l:List EntV) (self17:ajd→Option (ajd)) (x15:ajd):Option (ajd) :=
 if x15.1<((l.length:Nat):Int) then
 if 0≤x15.1∧x15.1<((l.length:Nat):Int) then
 (aaD x15.2.1.m).bind fun r18 =>
 (ahy l x15 r18).bind fun z27 =>
 aea r18.1.1 z27.1 z27.2.2.2.2.2.2.1 (fun e g =>self17 (wi (x15.1+1),e,z27.2.1,z27.2.2.1,z27.2.2.2.1,z27.2.2.2.2.1,z27.2.2.2.2.2.1,g,()))
 else none
 else
 some (x15.1,x15.2.1,x15.2.2.1,x15.2.2.2.1,x15.2.2.2.2.1,x15.2.2.2.2.2.1,x15.2.2.2.2.2.2.1,x15.2.2.2.2.2.2.2.1,())
abbrev aLt:=Int×List St×ain×Unit
noncomputable def aLf (evs:List Ev) (self:aLt→Option aLt) (x:aLt):Option aLt :=
 if x.1<((evs.length:Nat):Int) then
 if 0≤x.1∧x.1<((evs.length:Nat):Int) then
 if 0≤x.1∧x.1<((x.2.2.1.2.1.length:Nat):Int) then
 if (((x.2.1.length+([(⟨acg x.2.2.1.2.1 x.1,aoD evs x.1⟩:St)]:List St).length:Nat)):Int)<1000000000000 then
 self (wi (x.1+1),x.2.1++([(⟨acg x.2.2.1.2.1 x.1,aoD evs x.1⟩:St)]),x.2.2.1,())
 else none
 else none
 else none
 else some x
structure EG (N:Nat) (e:EnvP) (g:ain):Prop where
 n:g.1=(N:Int)
 l:g.2.1.length=e.evs.length
 r:∀ s∈g.2.1,0≤s∧s<(N:Int)
 s:g.2.1.Pairwise (·≤·)
theorem aqp {N:Nat} {env:EnvP} {eng:ain} (F:(EnvP×ain×Unit→Option (EnvP×ain×Unit))→EnvP×ain×Unit→Option (EnvP×ain×Unit))
  (hF:∀ self x,F self x=if ((x.2.1.2.1.length:Nat):Int)<((x.1.evs.length:Nat):Int) then
    if (((x.2.1.2.1.length+([x.2.1.1]:List Int).length:Nat)):Int)<1000000000000 then self (x.1,(x.2.1.1,x.2.1.2.1++([x.2.1.1]),x.2.1.2.2.1,x.2.1.2.2.2.1,x.2.1.2.2.2.2.1,x.2.1.2.2.2.2.2.1,()),()) else none
   else some (x.1,(x.2.1.1,x.2.1.2.1,x.2.1.2.2.1,x.2.1.2.2.2.1,x.2.1.2.2.2.2.1,x.2.1.2.2.2.2.2.1,()),()))
  (hn:eng.1=(N:Int)) (h:eng.2.1.length≤env.evs.length) (he:env.evs.length≤999999999) (hr:∀ s∈eng.2.1,0≤s∧s<(N:Int)) (hs:eng.2.1.Pairwise (·≤·)) :
  aan (lpF F 18446744073709551616 (env,eng,())) fun z =>z.1=env∧z.2.1.1=(N:Int)∧z.2.1.2.1.length=env.evs.length∧(∀ s∈z.2.1.2.1,0≤s∧s<(N:Int)+1)∧z.2.1.2.1.Pairwise (·≤·)∧z.2.1.2.2=eng.2.2:=by
 refine abK (fun x =>x.1=env∧x.2.1.1=(N:Int)∧x.2.1.2.1.length≤env.evs.length∧(∀ s∈x.2.1.2.1,0≤s∧s<(N:Int)+1)∧x.2.1.2.1.Pairwise (·≤·)∧x.2.1.2.2=eng.2.2) (fun x =>env.evs.length-x.2.1.2.1.length) (fun self x hx ih =>?_) _ _ ⟨rfl,hn,h,fun s k =>by have:=hr s k; omega,hs,rfl⟩ (by show env.evs.length-_<_; omega)
 obtain ⟨e,⟨n,st,a,b,c,d,⟨⟩⟩,⟨⟩⟩:=x
 obtain ⟨h1,h2,h3,h4,h5,h6⟩:=hx
 simp only at h1 h2 h3 h4 h5 h6
 subst h1
 subst h2
 rw [hF]
 refine aan.ite (fun hlt =>?_) fun hge =>.some_ ⟨rfl,rfl,?_,h4,h5,h6⟩
 ·have hlt:((st.length:Nat):Int)<((e.evs.length:Nat):Int):=hlt
  refine aan.guard (by simp only [List.length_singleton]; omega) fun _ =>?_
  refine ih _ ⟨rfl,rfl,?_,?_,?_,h6⟩ ?_
  ·show (st++[(N:Int)]).length≤_
   rw [List.length_append,List.length_singleton]
   omega
  ·intro s hs
   rcases List.mem_append.1 hs with k | k
   ·exact h4 s k
   ·have k2:s=(N:Int):=List.mem_singleton.1 k
    omega
  ·show (st++[(N:Int)]).Pairwise (·≤·)
   rw [List.pairwise_append]
   exact ⟨h5,by simp,fun x hx y hy =>by rw [List.mem_singleton.1 hy]; have:=h4 x hx; omega⟩
  ·show e.evs.length-(st++[(N:Int)]).length<e.evs.length-st.length
   rw [List.length_append,List.length_singleton]
   omega
 ·have hge:¬ ((st.length:Nat):Int)<((e.evs.length:Nat):Int):=hge
  show st.length=e.evs.length
  have h3:st.length≤e.evs.length:=h3
  omega
theorem auE {σ:Type} {N:Nat} {c0:Int} {env e0:EnvP} {eng:ain} {self:EnvP→ain→Option σ} {P:σ→Prop}
  (hg:EG N e0 eng) (hev:∃ l,env.evs=e0.evs++l) (he:env.evs.length≤999999999) (hN:N≤1000000)
  (hs:∀ eng':ain,EG (N+1) env (wi (eng'.1+1),eng'.2)→(eng'.2.2.1,eng'.2.2.2.1)=(if c0<env.m.count then (env.m.last.kind,env.m.last.cell) else (0,0))→aan (self env (wi (eng'.1+1),eng'.2.1,eng'.2.2.1,eng'.2.2.2.1,eng'.2.2.2.2.1,eng'.2.2.2.2.2.1,())) P):aan (aea c0 env eng self) P:=by
 obtain ⟨l,hl⟩:=hev
 have hle:eng.2.1.length≤env.evs.length:=by rw [hg.l,hl,List.length_append]; omega
 have fin:∀ (p:Int×Int×Int×Int×Unit) (z:EnvP×ain×Unit),(p.1,p.2.1)=(if c0<env.m.count then (env.m.last.kind,env.m.last.cell) else (0,0))→(z.1=env∧z.2.1.1=(N:Int)∧z.2.1.2.1.length=env.evs.length∧(∀ s∈z.2.1.2.1,0≤s∧s<(N:Int)+1)∧z.2.1.2.1.Pairwise (·≤·)∧z.2.1.2.2=p)→aan (self z.1 (wi (z.2.1.1+1),z.2.1.2.1,z.2.1.2.2.1,z.2.1.2.2.2.1,z.2.1.2.2.2.2.1,z.2.1.2.2.2.2.2.1,())) P:=fun p z hp hz =>by
  obtain ⟨z1,z2,z3,z4,z5,z6⟩:=hz
  rw [z1]
  refine hs z.2.1 ⟨?_,z3,fun s k =>?_,z5⟩ (by rw [z6]; exact hp)
  ·show wi (z.2.1.1+1)=_
   rw [z2,aaK (aao (by omega))]; omega
  ·have:=z4 s k; omega
 unfold aea
 rw [aeN,bnd]
 refine aan.ite (fun hlt =>?_) fun hlt =>?_
 ·rw [aHR,bnd]
  exact aan.bind (aqp _ (fun _ _ =>rfl) hg.n (by exact hle) (by exact he) hg.r hg.s) fun z =>fin _ z (if_pos hlt).symm
 ·exact aan.bind (aqp _ (fun _ _ =>rfl) hg.n (by exact hle) (by exact he) hg.r hg.s) fun z =>fin _ z (if_neg hlt).symm
theorem aoO {σ:Type} {N:Nat} {c0:Int} {env e0:EnvP} {eng:ain} {self:EnvP→ain→Option σ} {P:σ→Prop}
  (hg:EG N e0 eng) (hev:∃ l,env.evs=e0.evs++l) (he:env.evs.length≤999999999) (hN:N≤1000000)
  (hs:∀ eng':ain,EG (N+1) env (wi (eng'.1+1),eng'.2)→aan (self env (wi (eng'.1+1),eng'.2.1,eng'.2.2.1,eng'.2.2.2.1,eng'.2.2.2.2.1,eng'.2.2.2.2.2.1,())) P):aan (aea c0 env eng self) P:=auE hg hev he hN fun g h _ =>hs g h
theorem aKP (c:ClientV MV):∃ s,adF c=some ((s,()),(c,()))∧(s=4↔(c.subs.length:Int)≤c.i):=by
 unfold adF aas
 rw [bnd]
 simp only
 by_cases h1:((c.subs.length:Nat):Int)≤c.i
 ·rw [if_pos (decide_eq_true h1)]; exact ⟨_,rfl,fun _ =>h1,fun _ =>rfl⟩
 ·rw [if_neg (by rw [decide_eq_true_iff]; exact h1)]
  by_cases h2:c.line=1
  ·rw [if_pos h2]; exact ⟨_,rfl,fun k =>absurd k (by decide),fun k =>absurd k h1⟩
  ·rw [if_neg h2]; exact ⟨_,rfl,fun k =>absurd k (by decide),fun k =>absurd k h1⟩
theorem aIV (w:WorkerV MV):∃ s,adw w=some ((s,()),(w,()))∧(s=2↔w.line=7):=by
 unfold adw aoa
 by_cases h1:w.line=0
 ·rw [if_pos h1]; exact ⟨_,rfl,fun k =>absurd k (by decide),fun k =>by omega⟩
 ·rw [if_neg h1]
  by_cases h2:w.line=7
  ·rw [if_pos h2]; exact ⟨_,rfl,fun _ =>h2,fun _ =>rfl⟩
  ·rw [if_neg h2]
   by_cases h3:w.line=8
   ·rw [if_pos h3,bnd]
    simp only
    by_cases h4:asl w.inside=true
    ·rw [if_pos h4]; exact ⟨_,rfl,fun k =>absurd k (by decide),fun k =>absurd k h2⟩
    ·rw [if_neg h4]; exact ⟨_,rfl,fun k =>absurd k (by decide),fun k =>absurd k h2⟩
   ·rw [if_neg h3]; exact ⟨_,rfl,fun k =>absurd k (by decide),fun k =>absurd k h2⟩
def stF (s:Int) (v:Ev):St:=⟨s,v⟩
theorem ayT {evs:List Ev} {g:ain} (h1:g.2.1.length=evs.length) (h2:evs.length≤999999999):aan (lpF (aLf evs) 18446744073709551616 (0,[],g,())) fun z =>z.2.1=List.zipWith stF g.2.1 evs∧z.2.2.1=g:=by
 have hl:(List.zipWith stF g.2.1 evs).length=evs.length:=by rw [List.length_zipWith,h1]; omega
 refine (abK (fun x =>0≤x.1∧x.1≤(evs.length:Int)∧x.2.1=(List.zipWith stF g.2.1 evs).take x.1.toNat∧x.2.2.1=g) (fun x =>((evs.length:Int)-x.1).toNat) (fun self x hx ih =>?_) _ _ ⟨Int.le_refl 0,by show (0:Int)≤_; omega,rfl,rfl⟩ (by show ((evs.length:Int)-0).toNat<_; omega))
 obtain ⟨i,l,g',⟨⟩⟩:=x
 obtain ⟨q1,q2,q3,q4⟩:=hx
 simp only at q1 q2 q3 q4
 subst q4
 have e1:wi (i+1)=i+1:=aaK (aao (by omega))
 unfold aLf
 refine aan.ite (fun hlt =>?_) fun hge =>.some_ ⟨?_,rfl⟩
 ·have hlt:i<(evs.length:Int):=hlt
  have hll:l.length≤evs.length:=by rw [q3,List.length_take]; omega
  refine .guard ⟨q1,hlt⟩ fun _ =>.guard (by show 0≤i∧i<((g'.2.1.length:Nat):Int); omega) fun _ =>.guard (by simp only [List.length_singleton]; omega) fun _ =>?_
  show aan (self (wi (i+1),_)) _
  rw [e1]
  refine ih _ ⟨by show 0≤i+1; omega,by show i+1≤_; omega,?_,rfl⟩ (by show (_-(i+1):Int).toNat<(_-i:Int).toNat; omega)
  show l++[_]=_
  have e2:(i+1).toNat=i.toNat+1:=by omega
  have hi:i.toNat<(List.zipWith stF g'.2.1 evs).length:=by omega
  rw [q3,e2,List.take_succ_eq_append_getElem hi,List.getElem_zipWith]
  have k1:acg g'.2.1 i=g'.2.1[i.toNat]'(by omega):=by
   have:=adL (α:=Int) (d:=(dfR 1:TR 1)) (xs:=g'.2.1) (i:=i) ⟨q1,by have h1:g'.2.1.length=evs.length:=h1; have hlt:i<(evs.length:Int):=hlt; omega⟩
   rw [List.getElem?_eq_getElem (by omega)] at this
   exact (Option.some.inj this).symm
  have k2:aoD evs i=evs[i.toNat]'(by omega):=by
   have:=adL (α:=Ev) (d:=(dfR 2:TR 2)) (xs:=evs) (i:=i) ⟨q1,hlt⟩
   rw [List.getElem?_eq_getElem (by omega)] at this
   exact (Option.some.inj this).symm
  show _++[(⟨acg g'.2.1 i,aoD evs i⟩:St)]=_
  rw [k1,k2]; rfl
 ·have hge:¬ i<(evs.length:Int):=hge
  show l=_
  rw [q3,List.take_of_length_le (by omega)]
theorem aJo {b:List Int} (hb:b.length≤1000000):aan (apS b) fun o =>o.1.1.length≤65536:=by
 unfold apS
 refine aan.bind (P:=fun z =>z.1.length≤65536) (abK (fun x =>0≤x.2.1∧x.2.1≤(b.length:Int)+2∧x.1.length≤65536) (fun x =>((b.length:Int)+2-x.2.1).toNat) (fun self x ⟨q0,q1,q2⟩ ih =>?_) _ _ ⟨Int.le_refl 0,by show (0:Int)≤(b.length:Int)+2; omega,Nat.zero_le _⟩ (by show ((b.length:Int)+2-0).toNat<_; omega)) fun z hz =>.some_ hz
 have e1:wi (x.2.1+1)=x.2.1+1:=aaK (aao (by omega))
 have e2:wi (x.2.1+2)=x.2.1+2:=aaK (aao (by omega))
 rw [e1,e2]
 refine aan.ite (fun h1 =>aan.ite (fun h2 =>.guard (by omega) fun _ =>.guard (by omega) fun _ =>.guard rfl fun _ =>.guard rfl fun _ =>?_) fun _ =>.some_ q2) fun _ =>.some_ q2
 have nx:∀ u:EntV,aan (self (x.1++[u],x.2.1+2,())) fun z =>z.1.length≤65536:=fun u =>ih _ ⟨by show 0≤x.2.1+2; omega,by show x.2.1+2≤(b.length:Int)+2; omega,by simp; omega⟩ (by show ((b.length:Int)+2-(x.2.1+2)).toNat<((b.length:Int)+2-x.2.1).toNat; omega)
 refine aan.ite (fun _ =>.guard (by simp; omega) fun _ =>nx _) fun _ =>aan.ite (fun _ =>.guard (by simp; omega) fun _ =>nx _) fun _ =>.guard (by simp; omega) fun _ =>nx _
theorem ak3 {b:List Int} {n:Int} (hb:b.length≤1000000) (hn:0≤n):aan (al5 b n) fun o =>o.1.1.length≤n.toNat:=by
 unfold al5
 refine (aJo hb).bind fun r hr =>aan.ite (fun h =>.guard (by omega) fun _ =>.some_ (by show (r.1.1.take n.toNat).length≤n.toNat; simp; omega)) fun h =>.some_ (by show r.1.1.length≤n.toNat; omega)
theorem aB4 {x k:Int} (hk:1≤k∧k≤1000000):aan (aby x k) fun o =>0≤o.1.1∧o.1.1<k:=by
 have h1:Int.tmod x k<k ∧ -k<Int.tmod x k:=by
  constructor
  ·exact Int.tmod_lt_of_pos _ (by omega)
  ·have h2:Int.tmod (-x) k<k:=Int.tmod_lt_of_pos _ (by omega)
   rw [Int.neg_tmod] at h2
   omega
 unfold aby
 rw [if_neg (by omega),if_pos (by omega)]
 refine aan.ite (fun hl =>?_) fun hl =>?_
 ·rw [if_pos (by omega),aaK (aao (by omega))]
  exact .some_ ⟨by show 0≤Int.tmod x k+k; omega,by show Int.tmod x k+k<k; omega⟩
 ·rw [if_pos (by omega)]
  exact .some_ ⟨by show 0≤Int.tmod x k; omega,h1.1⟩
theorem aKv {c:Cfg} {I:Nat→EnvP→List (WorkerV MV)→ClientV MV→Prop} (hI:EngI c I) {N:Nat} {env:EnvP} {w0:WorkerV MV} {cl:ClientV MV} {eng:ain} {i:Int} {l:List EntV} (h:I N env [w0] cl) (hN:N≤100000) :
  aan (ahB l (i,env,w0,cl,eng,()) ((env.m.count,()),(env.m,()))) fun z =>I (N+1) z.1 [z.2.1] z.2.2.1∧z.2.2.2.1=eng∧∃ l,z.1.evs=env.evs++l:=by
 unfold ahB
 refine aan.ite (fun hk =>?_) fun hk =>aan.ite (fun _ =>?_) fun _ =>aan.ite (fun _ =>?_) fun _ =>?_
 ·refine (am6 (n:=2) (by decide) hk).bind fun o ho =>?_
  refine aan.ite (fun _ =>?_) fun n1 =>aan.ite (fun _ =>?_) fun n0 =>?_
  ·exact (hI.c h hN).bind fun o ho =>.some_ ⟨ho.1,rfl,ho.2⟩
  ·exact (hI.w h hN (j:=0) rfl).bind fun o ho =>.some_ ⟨ho.1,rfl,ho.2⟩
  ·exfalso; have m0:¬ o.1.1=((0:Nat):Int):=n0; have m1:¬ o.1.1=((1:Nat):Int):=n1; omega
 ·exact ⟨_,rfl,hI.n (hI.k h),rfl,[],by simp⟩
 ·exact ⟨_,rfl,hI.n (hI.k h),rfl,[],by simp⟩
 ·exact ⟨_,rfl,hI.n h,rfl,[],by simp⟩
theorem aKr {c:Cfg} {I:Nat→EnvP→List (WorkerV MV)→ClientV MV→Prop} (hI:EngI c I) {N:Nat} {env:EnvP} {w0:WorkerV MV} {cl:ClientV MV} {eng:ain} {l:List EntV} (h:I N env [w0] cl) (hg:EG N env eng) (hN:N+l.length≤100000) :
  aan (lpF (amt l) 18446744073709551616 (0,env,w0,cl,eng,())) fun z =>I (N+l.length) z.2.1 [z.2.2.1] z.2.2.2.1∧EG (N+l.length) z.2.1 z.2.2.2.2.1∧∃ m,z.2.1.evs=env.evs++m:=by
 refine abK (fun x =>0≤x.1∧x.1≤(l.length:Int)∧I (N+x.1.toNat) x.2.1 [x.2.2.1] x.2.2.2.1∧EG (N+x.1.toNat) x.2.1 x.2.2.2.2.1∧∃ m,x.2.1.evs=env.evs++m) (fun x =>(l.length:Int).toNat-x.1.toNat) (fun self x hx ih =>?_) _ _ ?init (by show (l.length:Int).toNat-0<_; omega)
 case init =>exact ⟨Int.le_refl 0,by show (0:Int)≤_; omega,h,hg,[],by simp⟩
 obtain ⟨i,en2,w0,cl,eng,⟨⟩⟩:=x
 obtain ⟨q1,q2,h,hg,m0,hm⟩:=hx
 simp only at q1 q2 h hg hm
 unfold amt
 refine aan.ite (fun hlt =>?_) fun hge =>.some_ ?iend
 case iend =>
  have hge:¬ i<(l.length:Int):=hge
  have:i.toNat=l.length:=by omega
  rw [this] at h hg
  exact ⟨h,hg,m0,hm⟩
 have hlt:i<(l.length:Int):=hlt
 refine aan.guard ⟨q1,hlt⟩ fun _ =>?_
 rw [aeN,bnd]
 refine (aKv hI (i:=i) (l:=l) (eng:=eng) h (by omega)).bind fun z hz =>?_
 obtain ⟨ze,z0,zc,zg,⟨⟩⟩:=z
 obtain ⟨a3,ag,m1,hm1⟩:=hz
 simp only at a3 ag hm1
 subst ag
 have hev:=hI.ev a3
 refine aoO hg ⟨m1,hm1⟩ (by show ze.evs.length≤_; omega) (by omega) fun eng2 he =>?_
 have ei:wi (i+1)=i+1:=aaK (aao (by omega))
 have en:N+i.toNat+1=N+(i+1).toNat:=by omega
 rw [en] at a3 he
 show aan (self (wi (i+1),ze,z0,zc,_,())) _
 rw [ei]
 exact ih _ ⟨by show 0≤i+1; omega,by show i+1≤_; omega,a3,he,m0++m1,by show ze.evs=_; rw [hm1,hm,List.append_assoc]⟩ (by show _-(i+1).toNat<_-i.toNat; omega)
theorem aKu {c:Cfg} {I:Nat→EnvP→List (WorkerV MV)→ClientV MV→Prop} (hI:EngI c I) {N:Nat} {env:EnvP} {w0 w1:WorkerV MV} {cl:ClientV MV} {eng:ain} {i:Int} {l:List EntV} (h:I N env [w0,w1] cl) (hN:N≤100000) :
  aan (ahA l (i,env,w0,w1,cl,eng,()) ((env.m.count,()),(env.m,()))) fun z =>I (N+1) z.1 [z.2.1,z.2.2.1] z.2.2.2.1∧z.2.2.2.2.1=eng∧∃ l,z.1.evs=env.evs++l:=by
 unfold ahA
 refine aan.ite (fun hk =>?_) fun hk =>aan.ite (fun _ =>?_) fun _ =>aan.ite (fun _ =>?_) fun _ =>?_
 ·refine (am6 (n:=3) (by decide) hk).bind fun o ho =>?_
  refine aan.ite (fun _ =>?_) fun n2 =>aan.ite (fun _ =>?_) fun n1 =>aan.ite (fun _ =>?_) fun n0 =>?_
  ·exact (hI.c h hN).bind fun o ho =>.some_ ⟨ho.1,rfl,ho.2⟩
  ·exact (hI.w h hN (j:=1) rfl).bind fun o ho =>.some_ ⟨ho.1,rfl,ho.2⟩
  ·exact (hI.w h hN (j:=0) rfl).bind fun o ho =>.some_ ⟨ho.1,rfl,ho.2⟩
  ·exfalso; have m0:¬ o.1.1=((0:Nat):Int):=n0; have m1:¬ o.1.1=((1:Nat):Int):=n1; have m2:¬ o.1.1=((2:Nat):Int):=n2; omega
 ·exact ⟨_,rfl,hI.n (hI.k h),rfl,[],by simp⟩
 ·exact ⟨_,rfl,hI.n (hI.k h),rfl,[],by simp⟩
 ·exact ⟨_,rfl,hI.n h,rfl,[],by simp⟩
theorem aKq {c:Cfg} {I:Nat→EnvP→List (WorkerV MV)→ClientV MV→Prop} (hI:EngI c I) {N:Nat} {env:EnvP} {w0 w1:WorkerV MV} {cl:ClientV MV} {eng:ain} {l:List EntV} (h:I N env [w0,w1] cl) (hg:EG N env eng) (hN:N+l.length≤100000) :
  aan (lpF (ams l) 18446744073709551616 (0,env,w0,w1,cl,eng,())) fun z =>I (N+l.length) z.2.1 [z.2.2.1,z.2.2.2.1] z.2.2.2.2.1∧EG (N+l.length) z.2.1 z.2.2.2.2.2.1∧∃ m,z.2.1.evs=env.evs++m:=by
 refine abK (fun x =>0≤x.1∧x.1≤(l.length:Int)∧I (N+x.1.toNat) x.2.1 [x.2.2.1,x.2.2.2.1] x.2.2.2.2.1∧EG (N+x.1.toNat) x.2.1 x.2.2.2.2.2.1∧∃ m,x.2.1.evs=env.evs++m) (fun x =>(l.length:Int).toNat-x.1.toNat) (fun self x hx ih =>?_) _ _ ?init (by show (l.length:Int).toNat-0<_; omega)
 case init =>exact ⟨Int.le_refl 0,by show (0:Int)≤_; omega,h,hg,[],by simp⟩
 obtain ⟨i,en2,w0,w1,cl,eng,⟨⟩⟩:=x
 obtain ⟨q1,q2,h,hg,m0,hm⟩:=hx
 simp only at q1 q2 h hg hm
 unfold ams
 refine aan.ite (fun hlt =>?_) fun hge =>.some_ ?iend
 case iend =>
  have hge:¬ i<(l.length:Int):=hge
  have:i.toNat=l.length:=by omega
  rw [this] at h hg
  exact ⟨h,hg,m0,hm⟩
 have hlt:i<(l.length:Int):=hlt
 refine aan.guard ⟨q1,hlt⟩ fun _ =>?_
 rw [aeN,bnd]
 refine (aKu hI (i:=i) (l:=l) (eng:=eng) h (by omega)).bind fun z hz =>?_
 obtain ⟨ze,z0,z1,zc,zg,⟨⟩⟩:=z
 obtain ⟨a3,ag,m1,hm1⟩:=hz
 simp only at a3 ag hm1
 subst ag
 have hev:=hI.ev a3
 refine aoO hg ⟨m1,hm1⟩ (by show ze.evs.length≤_; omega) (by omega) fun eng2 he =>?_
 have ei:wi (i+1)=i+1:=aaK (aao (by omega))
 have en:N+i.toNat+1=N+(i+1).toNat:=by omega
 rw [en] at a3 he
 show aan (self (wi (i+1),ze,z0,z1,zc,_,())) _
 rw [ei]
 exact ih _ ⟨by show 0≤i+1; omega,by show i+1≤_; omega,a3,he,m0++m1,by show ze.evs=_; rw [hm1,hm,List.append_assoc]⟩ (by show _-(i+1).toNat<_-i.toNat; omega)
theorem aKt {c:Cfg} {I:Nat→EnvP→List (WorkerV MV)→ClientV MV→Prop} (hI:EngI c I) {N:Nat} {env:EnvP} {w0 w1 w2:WorkerV MV} {cl:ClientV MV} {eng:ain} {i:Int} {l:List EntV} (h:I N env [w0,w1,w2] cl) (hN:N≤100000) :
  aan (ahz l (i,env,w0,w1,w2,cl,eng,()) ((env.m.count,()),(env.m,()))) fun z =>I (N+1) z.1 [z.2.1,z.2.2.1,z.2.2.2.1] z.2.2.2.2.1∧z.2.2.2.2.2.1=eng∧∃ l,z.1.evs=env.evs++l:=by
 unfold ahz
 refine aan.ite (fun hk =>?_) fun hk =>aan.ite (fun _ =>?_) fun _ =>aan.ite (fun _ =>?_) fun _ =>?_
 ·refine (am6 (n:=4) (by decide) hk).bind fun o ho =>?_
  refine aan.ite (fun _ =>?_) fun n3 =>aan.ite (fun _ =>?_) fun n2 =>aan.ite (fun _ =>?_) fun n1 =>aan.ite (fun _ =>?_) fun n0 =>?_
  ·exact (hI.c h hN).bind fun o ho =>.some_ ⟨ho.1,rfl,ho.2⟩
  ·exact (hI.w h hN (j:=2) rfl).bind fun o ho =>.some_ ⟨ho.1,rfl,ho.2⟩
  ·exact (hI.w h hN (j:=1) rfl).bind fun o ho =>.some_ ⟨ho.1,rfl,ho.2⟩
  ·exact (hI.w h hN (j:=0) rfl).bind fun o ho =>.some_ ⟨ho.1,rfl,ho.2⟩
  ·exfalso; have m0:¬ o.1.1=((0:Nat):Int):=n0; have m1:¬ o.1.1=((1:Nat):Int):=n1; have m2:¬ o.1.1=((2:Nat):Int):=n2; have m3:¬ o.1.1=((3:Nat):Int):=n3; omega
 ·exact ⟨_,rfl,hI.n (hI.k h),rfl,[],by simp⟩
 ·exact ⟨_,rfl,hI.n (hI.k h),rfl,[],by simp⟩
 ·exact ⟨_,rfl,hI.n h,rfl,[],by simp⟩
theorem aKp {c:Cfg} {I:Nat→EnvP→List (WorkerV MV)→ClientV MV→Prop} (hI:EngI c I) {N:Nat} {env:EnvP} {w0 w1 w2:WorkerV MV} {cl:ClientV MV} {eng:ain} {l:List EntV} (h:I N env [w0,w1,w2] cl) (hg:EG N env eng) (hN:N+l.length≤100000) :
  aan (lpF (amr l) 18446744073709551616 (0,env,w0,w1,w2,cl,eng,())) fun z =>I (N+l.length) z.2.1 [z.2.2.1,z.2.2.2.1,z.2.2.2.2.1] z.2.2.2.2.2.1∧EG (N+l.length) z.2.1 z.2.2.2.2.2.2.1∧∃ m,z.2.1.evs=env.evs++m:=by
 refine abK (fun x =>0≤x.1∧x.1≤(l.length:Int)∧I (N+x.1.toNat) x.2.1 [x.2.2.1,x.2.2.2.1,x.2.2.2.2.1] x.2.2.2.2.2.1∧EG (N+x.1.toNat) x.2.1 x.2.2.2.2.2.2.1∧∃ m,x.2.1.evs=env.evs++m) (fun x =>(l.length:Int).toNat-x.1.toNat) (fun self x hx ih =>?_) _ _ ?init (by show (l.length:Int).toNat-0<_; omega)
 case init =>exact ⟨Int.le_refl 0,by show (0:Int)≤_; omega,h,hg,[],by simp⟩
 obtain ⟨i,en2,w0,w1,w2,cl,eng,⟨⟩⟩:=x
 obtain ⟨q1,q2,h,hg,m0,hm⟩:=hx
 simp only at q1 q2 h hg hm
 unfold amr
 refine aan.ite (fun hlt =>?_) fun hge =>.some_ ?iend
 case iend =>
  have hge:¬ i<(l.length:Int):=hge
  have:i.toNat=l.length:=by omega
  rw [this] at h hg
  exact ⟨h,hg,m0,hm⟩
 have hlt:i<(l.length:Int):=hlt
 refine aan.guard ⟨q1,hlt⟩ fun _ =>?_
 rw [aeN,bnd]
 refine (aKt hI (i:=i) (l:=l) (eng:=eng) h (by omega)).bind fun z hz =>?_
 obtain ⟨ze,z0,z1,z2,zc,zg,⟨⟩⟩:=z
 obtain ⟨a3,ag,m1,hm1⟩:=hz
 simp only at a3 ag hm1
 subst ag
 have hev:=hI.ev a3
 refine aoO hg ⟨m1,hm1⟩ (by show ze.evs.length≤_; omega) (by omega) fun eng2 he =>?_
 have ei:wi (i+1)=i+1:=aaK (aao (by omega))
 have en:N+i.toNat+1=N+(i+1).toNat:=by omega
 rw [en] at a3 he
 show aan (self (wi (i+1),ze,z0,z1,z2,zc,_,())) _
 rw [ei]
 exact ih _ ⟨by show 0≤i+1; omega,by show i+1≤_; omega,a3,he,m0++m1,by show ze.evs=_; rw [hm1,hm,List.append_assoc]⟩ (by show _-(i+1).toNat<_-i.toNat; omega)
theorem aKs {c:Cfg} {I:Nat→EnvP→List (WorkerV MV)→ClientV MV→Prop} (hI:EngI c I) {N:Nat} {env:EnvP} {w0 w1 w2 w3:WorkerV MV} {cl:ClientV MV} {eng:ain} {i:Int} {l:List EntV} (h:I N env [w0,w1,w2,w3] cl) (hN:N≤100000) :
  aan (ahy l (i,env,w0,w1,w2,w3,cl,eng,()) ((env.m.count,()),(env.m,()))) fun z =>I (N+1) z.1 [z.2.1,z.2.2.1,z.2.2.2.1,z.2.2.2.2.1] z.2.2.2.2.2.1∧z.2.2.2.2.2.2.1=eng∧∃ l,z.1.evs=env.evs++l:=by
 unfold ahy
 refine aan.ite (fun hk =>?_) fun hk =>aan.ite (fun _ =>?_) fun _ =>aan.ite (fun _ =>?_) fun _ =>?_
 ·refine (am6 (n:=5) (by decide) hk).bind fun o ho =>?_
  refine aan.ite (fun _ =>?_) fun n4 =>aan.ite (fun _ =>?_) fun n3 =>aan.ite (fun _ =>?_) fun n2 =>aan.ite (fun _ =>?_) fun n1 =>aan.ite (fun _ =>?_) fun n0 =>?_
  ·exact (hI.c h hN).bind fun o ho =>.some_ ⟨ho.1,rfl,ho.2⟩
  ·exact (hI.w h hN (j:=3) rfl).bind fun o ho =>.some_ ⟨ho.1,rfl,ho.2⟩
  ·exact (hI.w h hN (j:=2) rfl).bind fun o ho =>.some_ ⟨ho.1,rfl,ho.2⟩
  ·exact (hI.w h hN (j:=1) rfl).bind fun o ho =>.some_ ⟨ho.1,rfl,ho.2⟩
  ·exact (hI.w h hN (j:=0) rfl).bind fun o ho =>.some_ ⟨ho.1,rfl,ho.2⟩
  ·exfalso; have m0:¬ o.1.1=((0:Nat):Int):=n0; have m1:¬ o.1.1=((1:Nat):Int):=n1; have m2:¬ o.1.1=((2:Nat):Int):=n2; have m3:¬ o.1.1=((3:Nat):Int):=n3; have m4:¬ o.1.1=((4:Nat):Int):=n4; omega
 ·exact ⟨_,rfl,hI.n (hI.k h),rfl,[],by simp⟩
 ·exact ⟨_,rfl,hI.n (hI.k h),rfl,[],by simp⟩
 ·exact ⟨_,rfl,hI.n h,rfl,[],by simp⟩
theorem aKo {c:Cfg} {I:Nat→EnvP→List (WorkerV MV)→ClientV MV→Prop} (hI:EngI c I) {N:Nat} {env:EnvP} {w0 w1 w2 w3:WorkerV MV} {cl:ClientV MV} {eng:ain} {l:List EntV} (h:I N env [w0,w1,w2,w3] cl) (hg:EG N env eng) (hN:N+l.length≤100000) :
  aan (lpF (amq l) 18446744073709551616 (0,env,w0,w1,w2,w3,cl,eng,())) fun z =>I (N+l.length) z.2.1 [z.2.2.1,z.2.2.2.1,z.2.2.2.2.1,z.2.2.2.2.2.1] z.2.2.2.2.2.2.1∧EG (N+l.length) z.2.1 z.2.2.2.2.2.2.2.1∧∃ m,z.2.1.evs=env.evs++m:=by
 refine abK (fun x =>0≤x.1∧x.1≤(l.length:Int)∧I (N+x.1.toNat) x.2.1 [x.2.2.1,x.2.2.2.1,x.2.2.2.2.1,x.2.2.2.2.2.1] x.2.2.2.2.2.2.1∧EG (N+x.1.toNat) x.2.1 x.2.2.2.2.2.2.2.1∧∃ m,x.2.1.evs=env.evs++m) (fun x =>(l.length:Int).toNat-x.1.toNat) (fun self x hx ih =>?_) _ _ ?init (by show (l.length:Int).toNat-0<_; omega)
 case init =>exact ⟨Int.le_refl 0,by show (0:Int)≤_; omega,h,hg,[],by simp⟩
 obtain ⟨i,en2,w0,w1,w2,w3,cl,eng,⟨⟩⟩:=x
 obtain ⟨q1,q2,h,hg,m0,hm⟩:=hx
 simp only at q1 q2 h hg hm
 unfold amq
 refine aan.ite (fun hlt =>?_) fun hge =>.some_ ?iend
 case iend =>
  have hge:¬ i<(l.length:Int):=hge
  have:i.toNat=l.length:=by omega
  rw [this] at h hg
  exact ⟨h,hg,m0,hm⟩
 have hlt:i<(l.length:Int):=hlt
 refine aan.guard ⟨q1,hlt⟩ fun _ =>?_
 rw [aeN,bnd]
 refine (aKs hI (i:=i) (l:=l) (eng:=eng) h (by omega)).bind fun z hz =>?_
 obtain ⟨ze,z0,z1,z2,z3,zc,zg,⟨⟩⟩:=z
 obtain ⟨a3,ag,m1,hm1⟩:=hz
 simp only at a3 ag hm1
 subst ag
 have hev:=hI.ev a3
 refine aoO hg ⟨m1,hm1⟩ (by show ze.evs.length≤_; omega) (by omega) fun eng2 he =>?_
 have ei:wi (i+1)=i+1:=aaK (aao (by omega))
 have en:N+i.toNat+1=N+(i+1).toNat:=by omega
 rw [en] at a3 he
 show aan (self (wi (i+1),ze,z0,z1,z2,z3,zc,_,())) _
 rw [ei]
 exact ih _ ⟨by show 0≤i+1; omega,by show i+1≤_; omega,a3,he,m0++m1,by show ze.evs=_; rw [hm1,hm,List.append_assoc]⟩ (by show _-(i+1).toNat<_-i.toNat; omega)
noncomputable def aA5 (y0:Cfg) (y2:List Int) (self:List AccV×Int×EnvP×(WorkerV MV)×(WorkerV MV)×(ClientV MV)×ain×Unit→Option (List AccV×Int×EnvP×(WorkerV MV)×(WorkerV MV)×(ClientV MV)×ain×Unit)) (x:List AccV×Int×EnvP×(WorkerV MV)×(WorkerV MV)×(ClientV MV)×ain×Unit):Option (List AccV×Int×EnvP×(WorkerV MV)×(WorkerV MV)×(ClientV MV)×ain×Unit) :=
 if x.2.1<((y2.length:Nat):Int) then
  if 0≤x.2.1∧x.2.1<((y2.length:Nat):Int) then
   (avc (acg y2 x.2.1) (wi (y0.workers+1))).bind fun r =>
   (aaD x.2.2.1.m).bind fun q =>
   (ahA [(⟨0,r.1.1⟩:EntV)] (0,x.2.2) q).bind fun z =>
   aea q.1.1 z.1 z.2.2.2.2.1 fun e g =>
   if (((x.1.length+([(⟨g.2.2.1,g.2.2.2.1,g.2.2.2.2.1,g.2.2.2.2.2.1⟩:AccV)]:List AccV).length:Nat)):Int)<1000000000000 then
   self (x.1++([(⟨g.2.2.1,g.2.2.2.1,g.2.2.2.2.1,g.2.2.2.2.2.1⟩:AccV)]),wi (x.2.1+1),e,z.2.1,z.2.2.1,z.2.2.2.1,g,())
   else none
  else none
 else some x
noncomputable def ad0 (y0:Cfg) (y1:List EntV) (y2:List Int):Option ((List AccV×Int×Unit)×(Unit)) :=
 (adp y0).bind fun r1 =>
 if r1.1.2.1≠0 then
  if r1.1.2.1≠0 then some (([],r1.1.2.1,()),())
  else if 64<((y2.length:Nat):Int) then some (([],2,()),()) else none
 else
 (aeJ y0).bind fun r2 =>
 if y0.workers=((2:Nat):Int) then
  (abv 0).bind fun w0 =>
  (abv 1).bind fun w1 =>
  if 64<((y2.length:Nat):Int) then some (([],2,()),())
  else
  (lpF (ams y1) 18446744073709551616 (0,r1.1.1,w0.1.1,w1.1.1,r2.1.1,(0,[],0,0,0,0,()),())).bind fun z =>
  (lpF (aA5 y0 y2) 18446744073709551616 ([],0,z.2.1,z.2.2.1,z.2.2.2.1,z.2.2.2.2.1,z.2.2.2.2.2.1,())).bind fun q =>some ((q.1,0,()),())
 else none
noncomputable abbrev agh:Con SR1:=⟨23,[.val 13,.sh (.ro 5),.sh (.ro 1)],[.sh (.row 60),.sh sI_],fun x =>ad0 x.1 x.2.1 x.2.2.1⟩
noncomputable def anu:List (Nat×Func):=[(41,Tryz.f41),(42,Tryz.f42),(52,Tryz.f52),(16,Tryz.f16),(43,Tryz.f43)]
theorem aig:CO Tryz.prog agh:=agL aai Tryz.func23 [adA,aeg,ad9,aaZ,ab0,abd,aba,abG,ab5,abc,aiT] ⟨adz,ad6,ad4,aa7,acd,abr,abn,abP,ace,abq,agU,trivial⟩ anu ⟨Tryz.func41,Tryz.func42,Tryz.func52,Tryz.func16,Tryz.func43,trivial⟩ (fun f =>(get [(41,[(6,.spl 22 [2] 3)]),(42,[(1,.loop [.rg 8 sI_,.ob 15 27,.ob 29 31,.ob 43 31,.ob 17 30,cxI 18 15 45 17 74] 18446744073709551616 0)]),(52,[(2,.unroll 3)]),(16,[(9,.cut [.ob 15 27,.ob 29 31,.ob 43 31,.ob 17 30,cxI 18 15 45 17 74] [9,10,11,12,77,78,79]),(9,.cut [.ob 15 27,.ob 29 31,.ob 43 31,.ob 17 30,cxI 18 15 45 17 74] [9,10,11,12,77,79,81]),(12,.loop [.ob 15 27,cxI 18 15 45 17 74] 18446744073709551616 1)])] f).getD []) [(9,.loop [.rg 10 (.row 60),.rg 29 sI_,.ob 15 27,.ob 29 31,.ob 43 31,.ob 17 30,cxI 18 15 45 17 74] 18446744073709551616 0)] fun x =>by kernel_rfl
noncomputable def ad2 (y0:Cfg) (y1:List EntV) (y2:List Int):Option ((List Int×Int×Unit)×(Unit)):=(ad0 y0 y1 y2).bind (aF7 y0 y2)
noncomputable abbrev afr:Con SR1:=⟨10,[.val 13,.sh (.ro 5),.sh (.ro 1)],[.sh (.row 1),.sh sI_],fun x =>ad2 x.1 x.2.1 x.2.2.1⟩
theorem ahc:CO Tryz.prog afr:=aal aai Tryz.func10 [agh,aiT,aca] ⟨aig,agU,acz,trivial⟩ [(7,.loop [.rg 34 sI_,.rg 10 (.row 1),.rg 11 (.own 64)] 18446744073709551616 0),(11,.loop [.rg 49 sI_,.rg 11 (.own 64)] 18446744073709551616 2),(20,.loop [.rg 14 (.row 1),.rg 15 sU_,.rg 85 sI_] 18446744073709551616 4),(23,.loop [.rg 16 sI_,.rg 89 sI_] 18446744073709551616 6)]
noncomputable def afe (y0:Cfg) (y1:List EntV) (y2:List Int):Option ((List AccV×Int×Unit)×(Unit)) :=
 (ad0 y0 y1 y2).bind fun r1 =>
 some ((r1.1.1,r1.1.2.1,()),())
noncomputable abbrev afW:Con SR1:=⟨18,[.val 13,.sh (.ro 5),.sh (.ro 1)],[.sh (.row 60),.sh sI_],fun x =>afe x.1 x.2.1 x.2.2.1⟩
theorem ahW:CO Tryz.prog afW:=aal aai Tryz.func18 [agh] ⟨aig,trivial⟩
noncomputable def agw  : Option ((Bool×Unit)×(Unit)) :=
 (agX ([1,0,0,1])).bind fun r1 =>
 (ad2 r1.1.1 ([]) ([1,0])).bind fun r2 =>
 (afe r1.1.1 ([]) ([1,0])).bind fun r3 =>
 if r2.1.2.1=0 then
  if r3.1.2.1=0 then
   (aaN r2.1.1 ([0,1])).bind fun r4 =>
   if r4.1.1=true then
    if ((r3.1.1.length:Nat):Int)=2 then
     if 0≤(0:Int)∧(0:Int)<((r3.1.1.length:Nat):Int) then
      if ((aja r3.1.1 0).kind)=1 then
       if 0≤(0:Int)∧(0:Int)<((r3.1.1.length:Nat):Int) then
        if 0≤(1:Int)∧(1:Int)<((r3.1.1.length:Nat):Int) then
         if ((aja r3.1.1 0).cell)≠((aja r3.1.1 1).cell) then
          if 0≤(0:Int)∧(0:Int)<((r3.1.1.length:Nat):Int) then
           if 0≤(1:Int)∧(1:Int)<((r3.1.1.length:Nat):Int) then
            (acI (aja r3.1.1 0) (aja r3.1.1 1)).bind fun r5 =>
            if r5.1.1=true then
             (acI (⟨6,3,0,0⟩:AccV) (⟨1,3,0,0⟩:AccV)).bind fun r6 =>
             some (((!r6.1.1),()),())
            else
            some ((false,()),())
           else none
          else none
         else
         some ((false,()),())
        else none
       else none
      else
      some ((false,()),())
     else none
    else
    some ((false,()),())
   else
   some ((false,()),())
  else
  some ((false,()),())
 else
 some ((false,()),())
noncomputable abbrev afH:Con SR1:=⟨11,[],[.sh .b],fun x =>agw ⟩
theorem aiE:CO Tryz.prog afH:=aal aai Tryz.func11 [ai0,afr,afW,ab8,aca] ⟨aiZ,ahc,ahW,acq,acz,trivial⟩
noncomputable abbrev act:Con SR1:=⟨11,[],[.sh .b],fun _ =>some ((true,()),())⟩
theorem aj1:agw=some ((true,()),()):=by kernel_rfl
theorem adg:CO Tryz.prog act:=aE2 aiE fun x out hx =>(show afH.spec x=some out from aj1.trans hx)
noncomputable def gC {α:Type} (c:Cfg) (k:Option α):Option α :=
 if c.workers=c.workers then
 if c.levels=c.levels then
 if c.classes=c.classes then
 if c.tasks=c.tasks then
 if c.deque=c.deque then
 if c.heap=c.heap then
 if c.batch=c.batch then
 if c.age=c.age then
 if c.patience=c.patience then
 k
 else none
 else none
 else none
 else none
 else none
 else none
 else none
 else none
 else none
noncomputable def gR {α:Type} (c:RecP) (k:Option α):Option α :=
 if c.prog=c.prog then
 if c.parent=c.parent then
 if c.pc=c.pc then
 if c.left=c.left then
 if c.waiting=c.waiting then
 if c.started=c.started then
 k
 else none
 else none
 else none
 else none
 else none
 else none
noncomputable def aAO (self130:List RecP×List RecP×Int×Unit→Option ((List RecP×List RecP×Int×Unit)⊕((Bool×Unit)×(Unit)))) (x128:List RecP×List RecP×Int×Unit):Option ((List RecP×List RecP×Int×Unit)⊕((Bool×Unit)×(Unit))) :=
 if x128.2.2.1<((x128.1.length:Nat):Int) then
 if 0≤x128.2.2.1∧x128.2.2.1<((x128.1.length:Nat):Int) then
 if 0≤x128.2.2.1∧x128.2.2.1<((x128.2.1.length:Nat):Int) then
 agr (
 gR (acA x128.2.1 x128.2.2.1) (
 gR (acA x128.1 x128.2.2.1) (
 gR (acA x128.2.1 x128.2.2.1) (
 gR (acA x128.1 x128.2.2.1) (
 gR (acA x128.2.1 x128.2.2.1) (
 if ((acA x128.1 x128.2.2.1).prog)≠((acA x128.2.1 x128.2.2.1).prog) then
 Option.map Sum.inr (
 some ((false,()),())
 )
 else
 if ((acA x128.1 x128.2.2.1).parent)≠((acA x128.2.1 x128.2.2.1).parent) then
 Option.map Sum.inr (
 some ((false,()),())
 )
 else
 if ((acA x128.1 x128.2.2.1).pc)≠((acA x128.2.1 x128.2.2.1).pc) then
 Option.map Sum.inr (
 some ((false,()),())
 )
 else
 if ((acA x128.1 x128.2.2.1).left)≠((acA x128.2.1 x128.2.2.1).left) then
 Option.map Sum.inr (
 some ((false,()),())
 )
 else
 if ((acA x128.1 x128.2.2.1).waiting)≠((acA x128.2.1 x128.2.2.1).waiting) then
 Option.map Sum.inr (
 some ((false,()),())
 )
 else
 if ((acA x128.1 x128.2.2.1).started)≠((acA x128.2.1 x128.2.2.1).started) then
 Option.map Sum.inr (
 some ((false,()),())
 )
 else
 (aaN ((acA x128.1 x128.2.2.1).kids) ((acA x128.2.1 x128.2.2.1).kids)).bind fun r132 =>
 if (!r132.1.1)=true then
 Option.map Sum.inr (
 some ((false,()),())
 )
 else
 self130 (x128.1.set x128.2.2.1.toNat (acA x128.1 x128.2.2.1),x128.2.1.set x128.2.2.1.toNat (acA x128.2.1 x128.2.2.1),wi (x128.2.2.1+1),())
 )
 )
 )
 )
 )
 ) (
 gR (acA x128.2.1 x128.2.2.1) (
 gR (acA x128.1 x128.2.2.1) (
 gR (acA x128.2.1 x128.2.2.1) (
 gR (acA x128.1 x128.2.2.1) (
 gR (acA x128.2.1 x128.2.2.1) (
 if ((acA x128.1 x128.2.2.1).prog)≠((acA x128.2.1 x128.2.2.1).prog) then
 Option.map Sum.inr (
 some ((false,()),())
 )
 else
 if ((acA x128.1 x128.2.2.1).parent)≠((acA x128.2.1 x128.2.2.1).parent) then
 Option.map Sum.inr (
 some ((false,()),())
 )
 else
 if ((acA x128.1 x128.2.2.1).pc)≠((acA x128.2.1 x128.2.2.1).pc) then
 Option.map Sum.inr (
 some ((false,()),())
 )
 else
 if ((acA x128.1 x128.2.2.1).left)≠((acA x128.2.1 x128.2.2.1).left) then
 Option.map Sum.inr (
 some ((false,()),())
 )
 else
 if ((acA x128.1 x128.2.2.1).waiting)≠((acA x128.2.1 x128.2.2.1).waiting) then
 Option.map Sum.inr (
 some ((false,()),())
 )
 else
 if ((acA x128.1 x128.2.2.1).started)≠((acA x128.2.1 x128.2.2.1).started) then
 Option.map Sum.inr (
 some ((false,()),())
 )
 else
 (aaN ((acA x128.1 x128.2.2.1).kids) ((acA x128.2.1 x128.2.2.1).kids)).bind fun r131 =>
 if (!r131.1.1)=true then
 Option.map Sum.inr (
 some ((false,()),())
 )
 else
 self130 (x128.1.set x128.2.2.1.toNat (acA x128.1 x128.2.2.1),x128.2.1.set x128.2.2.1.toNat (acA x128.2.1 x128.2.2.1),wi (x128.2.2.1+1),())
 )
 )
 )
 )
 )
 )
 else none
 else none
 else
 some (Sum.inl (x128.1,x128.2.1,x128.2.2.1,()))
noncomputable def aeE (y2:List Int) (k:Int):List Int:=((([])++y2).set k.toNat (acg (([])++y2) (wi (k+1)))).set (wi (k+1)).toNat (acg (([])++y2) k)
noncomputable def ash {α:Type} (c:Cfg) (y2:List Int) (y3:Int) (r5:(List AccV×Int×Unit)×Unit) (T:Option ((Bool×Unit)×α)) (F:Option ((Bool×Unit)×α)) (K:Int→Option ((Bool×Unit)×α)):Option ((Bool×Unit)×α) :=
 if (!true)=true then F else
 if r5.1.2.1≠0 then F else
 if ((r5.1.1.length:Nat):Int)≠((y2.length:Nat):Int) then F else
 (ad8 ([y3]) 0 (wi (((y2.length:Nat):Int)-1))).bind fun r7 =>
 ((
 if 0≤r7.1.1∧r7.1.1<((y2.length:Nat):Int) then
 if 0≤wi (r7.1.1+1)∧wi (r7.1.1+1)<((y2.length:Nat):Int) then
 (aby (acg y2 r7.1.1) (wi (c.workers+1))).bind fun r8 =>
 if c.workers=c.workers then
 if (acg y2 (wi (r7.1.1+1)))=(acg y2 (wi (r7.1.1+1))) then
 (aby (acg y2 (wi (r7.1.1+1))) (wi (c.workers+1))).bind fun r9 =>
 if r8.1.1=r9.1.1 then some (true,())
 else
 if 0≤r7.1.1∧r7.1.1<((r5.1.1.length:Nat):Int) then
 if 0≤wi (r7.1.1+1)∧wi (r7.1.1+1)<((r5.1.1.length:Nat):Int) then
 (adH (aja r5.1.1 r7.1.1) (aja r5.1.1 (wi (r7.1.1+1)))).bind fun r10 =>
 some ((!r10.1.1),())
 else none
 else none
 else none
 else none
 else none
 else none
 ):Option (Bool×Unit)).bind fun z11 =>
 if z11.1=true then T else
 if (((([]:List Int).length+y2.length:Nat)):Int)<1000000000000 then
 if 0≤wi (r7.1.1+1)∧wi (r7.1.1+1)<(((([])++y2).length:Nat):Int) then
 if 0≤r7.1.1∧r7.1.1<(((([])++y2).length:Nat):Int) then
 if 0≤r7.1.1∧r7.1.1<(((([])++y2).length:Nat):Int) then
 if 0≤wi (r7.1.1+1)∧wi (r7.1.1+1)<((((([])++y2).set r7.1.1.toNat (acg (([])++y2) (wi (r7.1.1+1)))).length:Nat):Int) then K r7.1.1
 else none
 else none
 else none
 else none
 else none
noncomputable def aLL (p q:List Ev) (self:Int×Unit→Option ((Int×Unit)⊕((Bool×Unit)×(Unit)))) (x:Int×Unit):Option ((Int×Unit)⊕((Bool×Unit)×(Unit))) :=
 if x.1<((p.length:Nat):Int) then
 if 0≤x.1∧x.1<((p.length:Nat):Int) then
 if 0≤x.1∧x.1<((q.length:Nat):Int) then
 if ¬ (((aoD p x.1).kind)=((aoD q x.1).kind)∧((aoD p x.1).worker)=((aoD q x.1).worker)∧((aoD p x.1).task)=((aoD q x.1).task)∧((aoD p x.1).other)=((aoD q x.1).other)∧((aoD p x.1).level)=((aoD q x.1).level)∧True) then
 Option.map Sum.inr (some ((false,()),()))
 else self (wi (x.1+1),())
 else none
 else none
 else some (Sum.inl (x.1,()))
noncomputable def acW (a b:List St) (m:Int) (K:Option ((Bool×Unit)×Unit)):Option ((Bool×Unit)×Unit) :=
 (acM a m).bind fun r1 =>
 (acM b m).bind fun r2 =>
 if ((r1.1.1.length:Nat):Int)≠((r2.1.1.length:Nat):Int) then some ((false,()),()) else
 (lpF (aLL r1.1.1 r2.1.1) 18446744073709551616 (0,())).bind fun z =>match z with
 | .inr o =>some o
 | .inl _ =>K
noncomputable def aoZ (p q:List Int) (K:Option ((Bool×Unit)×Unit)):Option ((Bool×Unit)×Unit) :=
 (aaN p q).bind fun r =>if (!r.1.1)=true then some ((false,()),()) else K
noncomputable def azW (w v:WorkerV MV) (K:Option ((Bool×Unit)×Unit)):Option ((Bool×Unit)×Unit) :=
 (adw w).bind fun r1 =>
 (adw v).bind fun r2 =>
 if r1.1.1≠r2.1.1 then some ((false,()),()) else
 (adR r1.2.1).bind fun s1 =>
 (adR r2.2.1).bind fun s2 =>aoZ s1.1.1 s2.1.1 K
noncomputable def aIG (w v:ClientV MV) (K:Option ((Bool×Unit)×Unit)):Option ((Bool×Unit)×Unit) :=
 (adF w).bind fun r1 =>
 (adF v).bind fun r2 =>
 if r1.1.1≠r2.1.1 then some ((false,()),()) else aoZ ([]) ([]) K
noncomputable def aIH (e1 e2:EnvP) (g1 g2:ain) (K:List St→List St→Option ((Bool×Unit)×Unit)):Option ((Bool×Unit)×Unit) :=
 (ac2 e1.m).bind fun r1 =>
 (ac2 e2.m).bind fun r2 =>
 (adt r1.1.1 r2.1.1).bind fun r3 =>
 if (!r3.1.1)=true then some ((false,()),()) else
 (ap3 ({ e1 with m:=r1.2.1 }:EnvP)).bind fun r4 =>
 (ap3 ({ e2 with m:=r2.2.1 }:EnvP)).bind fun r5 =>
 if ((r4.1.1.recs.length:Nat):Int)≠((r5.1.1.recs.length:Nat):Int) then some ((false,()),()) else
 (lpF aAO 18446744073709551616 (r4.1.1.recs,r5.1.1.recs,0,())).bind fun z =>match z with
 | .inr o =>some o
 | .inl _ =>
 (lpF (aLf r4.2.1.evs) 18446744073709551616 (0,[],g1,())).bind fun a =>
 (lpF (aLf r5.2.1.evs) 18446744073709551616 (0,[],g2,())).bind fun b =>
 if ((a.2.1.length:Nat):Int)≠((b.2.1.length:Nat):Int) then some ((false,()),()) else K a.2.1 b.2.1
noncomputable def aA6 (y0:Cfg) (y2:List Int) (self:List AccV×Int×EnvP×(WorkerV MV)×(ClientV MV)×ain×Unit→Option (List AccV×Int×EnvP×(WorkerV MV)×(ClientV MV)×ain×Unit)) (x:List AccV×Int×EnvP×(WorkerV MV)×(ClientV MV)×ain×Unit):Option (List AccV×Int×EnvP×(WorkerV MV)×(ClientV MV)×ain×Unit) :=
 if x.2.1<((y2.length:Nat):Int) then
  if 0≤x.2.1∧x.2.1<((y2.length:Nat):Int) then
   (avc (acg y2 x.2.1) (wi (y0.workers+1))).bind fun r =>
   (aaD x.2.2.1.m).bind fun q =>
   (ahB [(⟨0,r.1.1⟩:EntV)] (0,x.2.2) q).bind fun z =>
   aea q.1.1 z.1 z.2.2.2.1 fun e g =>
   if (((x.1.length+([(⟨g.2.2.1,g.2.2.2.1,g.2.2.2.2.1,g.2.2.2.2.2.1⟩:AccV)]:List AccV).length:Nat)):Int)<1000000000000 then
   self (x.1++([(⟨g.2.2.1,g.2.2.2.1,g.2.2.2.2.1,g.2.2.2.2.2.1⟩:AccV)]),wi (x.2.1+1),e,z.2.1,z.2.2.1,g,())
   else none
  else none
 else some x
noncomputable def ad1 (y0:Cfg) (y1:List EntV) (y2:List Int):Option ((List AccV×Int×Unit)×(Unit)) :=
 (adp y0).bind fun r1 =>
 if r1.1.2.1≠0 then
  if r1.1.2.1≠0 then some (([],r1.1.2.1,()),())
  else if 64<((y2.length:Nat):Int) then some (([],2,()),()) else none
 else
 (aeJ y0).bind fun r2 =>
 if y0.workers=((1:Nat):Int) then
  (abv 0).bind fun w0 =>
  if 64<((y2.length:Nat):Int) then some (([],2,()),())
  else
  (lpF (amt y1) 18446744073709551616 (0,r1.1.1,w0.1.1,r2.1.1,(0,[],0,0,0,0,()),())).bind fun z =>
  (lpF (aA6 y0 y2) 18446744073709551616 ([],0,z.2.1,z.2.2.1,z.2.2.2.1,z.2.2.2.2.1,())).bind fun q =>some ((q.1,0,()),())
 else none
noncomputable abbrev agi:Con SR1:=⟨23,[.val 13,.sh (.ro 5),.sh (.ro 1)],[.sh (.row 60),.sh sI_],fun x =>ad1 x.1 x.2.1 x.2.2.1⟩
noncomputable def anv:List (Nat×Func):=[(41,Tryz.f41),(42,Tryz.f42),(52,Tryz.f52),(16,Tryz.f16),(43,Tryz.f43)]
theorem aih:CO Tryz.prog agi:=agL aai Tryz.func23 [adA,aeg,ad9,aaZ,ab0,abd,aba,abG,ab5,abc,aiT] ⟨adz,ad6,ad4,aa7,acd,abr,abn,abP,ace,abq,agU,trivial⟩ anv ⟨Tryz.func41,Tryz.func42,Tryz.func52,Tryz.func16,Tryz.func43,trivial⟩ (fun f =>(get [(41,[(6,.spl 22 [1] 2)]),(42,[(1,.loop [.rg 8 sI_,.ob 15 27,.ob 29 31,.ob 17 30,cxI 18 15 31 17 57] 18446744073709551616 0)]),(52,[(2,.unroll 2)]),(16,[(9,.cut [.ob 15 27,.ob 29 31,.ob 17 30,cxI 18 15 31 17 57] [9,10,11,12,60,61,62]),(9,.cut [.ob 15 27,.ob 29 31,.ob 17 30,cxI 18 15 31 17 57] [9,10,11,12,60,62,64]),(12,.loop [.ob 15 27,cxI 18 15 31 17 57] 18446744073709551616 1)])] f).getD []) [(9,.loop [.rg 10 (.row 60),.rg 29 sI_,.ob 15 27,.ob 29 31,.ob 17 30,cxI 18 15 31 17 57] 18446744073709551616 0)] fun x =>by kernel_rfl
noncomputable def aeQ (y0:Cfg) (y1:List EntV) (y2:List Int):Option ((List Int×Int×Unit)×(Unit)):=(ad1 y0 y1 y2).bind (aF7 y0 y2)
noncomputable abbrev ahV:Con SR1:=⟨10,[.val 13,.sh (.ro 5),.sh (.ro 1)],[.sh (.row 1),.sh sI_],fun x =>aeQ x.1 x.2.1 x.2.2.1⟩
theorem alB:CO Tryz.prog ahV:=aal aai Tryz.func10 [agi,aiT,aca] ⟨aih,agU,acz,trivial⟩ [(7,.loop [.rg 34 sI_,.rg 10 (.row 1),.rg 11 (.own 64)] 18446744073709551616 0),(11,.loop [.rg 49 sI_,.rg 11 (.own 64)] 18446744073709551616 2),(20,.loop [.rg 14 (.row 1),.rg 15 sU_,.rg 85 sI_] 18446744073709551616 4),(23,.loop [.rg 16 sI_,.rg 89 sI_] 18446744073709551616 6)]
noncomputable def ag0 (y0:Cfg) (y1:List EntV) (y2:List Int):Option ((List AccV×Int×Unit)×(Unit)) :=
 (ad1 y0 y1 y2).bind fun r1 =>
 some ((r1.1.1,r1.1.2.1,()),())
noncomputable abbrev aik:Con SR1:=⟨18,[.val 13,.sh (.ro 5),.sh (.ro 1)],[.sh (.row 60),.sh sI_],fun x =>ag0 x.1 x.2.1 x.2.2.1⟩
theorem amc:CO Tryz.prog aik:=aal aai Tryz.func18 [agi] ⟨aih,trivial⟩
noncomputable def aHB (y2:List Int) (self:ajg→Option (ajg)) (x:ajg):Option (ajg) :=
 if x.1<((y2.length:Nat):Int) then
 if 0≤x.1∧x.1<((y2.length:Nat):Int) then
 (aaU (acg y2 x.1)).bind fun r =>
 (aaD x.2.1.m).bind fun q =>
 (ahB [r.1.1] (0,x.2) q).bind fun z =>
 aea q.1.1 z.1 z.2.2.2.1 fun e g =>self (wi (x.1+1),e,z.2.1,z.2.2.1,g,())
 else none
 else some x
noncomputable def aEm (c:Cfg) (l:List EntV) (y2:List Int) (K:ajg→Option ((Bool×Unit)×Unit)):Option ((Bool×Unit)×Unit) :=
 (adp c).bind fun r1 =>
 if r1.1.2.1≠0 then
 if r1.1.2.1≠0 then none else none
 else
 (aeJ c).bind fun r2 =>
 if c.workers=((1:Nat):Int) then
 (abv 0).bind fun w0 =>
 (lpF (amt l) 18446744073709551616 (0,r1.1.1,w0.1.1,r2.1.1,(0,[],0,0,0,0,()),())).bind fun z =>
 (lpF (aHB y2) 18446744073709551616 (0,z.2)).bind K
 else none
noncomputable def atq (c:Cfg) (x y:ajg):Option ((Bool×Unit)×Unit) :=
 aIH x.2.1 y.2.1 x.2.2.2.2.1 y.2.2.2.2.1 fun a b =>
 if 0≤c.workers then azW x.2.2.1 y.2.2.1 (acW a b 0 (if 1≤c.workers then aIG x.2.2.2.1 y.2.2.2.1 (acW a b 1 (if 2≤c.workers then aoZ ([]) ([]) (acW a b 2 none) else some ((true,()),()))) else some ((true,()),()))) else some ((true,()),())
noncomputable def aLe (c:Cfg) (y2:List Int) (y3:Int) (l:List EntV):Option ((Bool×Unit)×Unit) :=
 (ag0 c l y2).bind fun r5 =>
 ash c y2 y3 r5 (some ((true,()),())) (some ((false,()),())) fun k =>
 (aeQ c l y2).bind fun p =>
 (aeQ c l (aeE y2 k)).bind fun q =>
 if p.1.2.1=0 then
 if q.1.2.1=0 then
 (aaN p.1.1 q.1.1).bind fun r =>
 if r.1.1=true then
 aEm c l y2 fun x =>gC c (gC c (aEm c l (aeE y2 k) fun y =>gC c (atq c x y)))
 else some ((false,()),())
 else some ((false,()),())
 else some ((false,()),())
noncomputable def aaR (y0:List Int) (y1:List Int) (y2:List Int) (y3:Int) (y4:Bool):Option ((Bool×Unit)×(Unit)) :=
 (aq5 y0 ([])).bind fun r1 =>
 if (!r1.1.1)=true then some ((true,()),())
 else
 if 600<((y1.length:Nat):Int) then some ((true,()),())
 else
 if 40<((y2.length:Nat):Int) then some ((true,()),())
 else
 if ((y2.length:Nat):Int)<2 then some ((true,()),())
 else
 (agX y0).bind fun r2 =>
 (al5 y1 300).bind fun r3 =>
 if y4=true then
 (abI r2.1.1).bind fun r4 =>
 if (((r4.1.1.length+r3.1.1.length:Nat)):Int)<1000000000000 then
 aLe r2.1.1 y2 y3 (r4.1.1++r3.1.1)
 else none
 else
 aLe r2.1.1 y2 y3 r3.1.1
noncomputable abbrev afE:Con SR1:=⟨5,[.sh (.ro 17),.sh (.ro 17),.sh (.ro 1),.sh sI_,.sh .b],[.sh .b],fun x =>aaR x.1 x.2.1 x.2.2.1 x.2.2.2.1 x.2.2.2.2.1⟩
noncomputable def afl:List (Nat×Func):=[(14,Tryz.f14),(26,Tryz.f26),(41,Tryz.f41),(52,Tryz.f52),(42,Tryz.f42),(16,Tryz.f16),(15,Tryz.f15),(28,Tryz.f28),(30,Tryz.f30),(29,Tryz.f29),(31,Tryz.f31),(32,Tryz.f32),(33,Tryz.f33)]
theorem afm:CO Tryz.prog afE:=agL aai Tryz.func5 [anj,ai0,akG,acu,aik,act,acv,ab9,abm,ahV,ab8,adA,aeg,ad9,aaZ,ab0,abd,aba,abG,ab5,abc,aci,acl,acQ,ai3,acS,ac7,adu,acU] ⟨ani,aiZ,ale,adh,amc,adg,adi,acr,abQ,alB,acq,adz,ad6,ad4,aa7,acd,abr,abn,abP,ace,abq,acR,acT,ads,ajD,adv,adO,ad7,adE,trivial⟩ afl ⟨Tryz.func14,Tryz.func26,Tryz.func41,Tryz.func52,Tryz.func42,Tryz.func16,Tryz.func15,Tryz.func28,Tryz.func30,Tryz.func29,Tryz.func31,Tryz.func32,Tryz.func33,trivial⟩ (fun f =>(get [(14,[(3,.loop [.rg 8 sI_,.ob 74 27,.ob 88 31,.ob 76 30,cxI 77 74 90 76 116] 18446744073709551616 0),(3,.loop [.rg 8 sI_,.ob 123 27,.ob 137 31,.ob 125 30,cxI 126 123 139 125 165] 18446744073709551616 0),(3,.loop [.rg 8 sI_,.ob 72 27,.ob 86 31,.ob 74 30,cxI 75 72 88 74 114] 18446744073709551616 0),(3,.loop [.rg 8 sI_,.ob 121 27,.ob 135 31,.ob 123 30,cxI 124 121 137 123 163] 18446744073709551616 0)]),(41,[(6,.spl 22 [1] 2)]),(52,[(2,.unroll 2)]),(42,[(1,.loop [.rg 8 sI_,.ob 74 27,.ob 88 31,.ob 76 30,cxI 77 74 90 76 116] 18446744073709551616 0),(1,.loop [.rg 8 sI_,.ob 123 27,.ob 137 31,.ob 125 30,cxI 126 123 139 125 165] 18446744073709551616 0),(1,.loop [.rg 8 sI_,.ob 72 27,.ob 86 31,.ob 74 30,cxI 75 72 88 74 114] 18446744073709551616 0),(1,.loop [.rg 8 sI_,.ob 121 27,.ob 135 31,.ob 123 30,cxI 124 121 137 123 163] 18446744073709551616 0)]),(16,[(9,.cut [.ob 74 27,.ob 88 31,.ob 76 30,cxI 77 74 90 76 116] [0,1,2,15,16,20,24,28,33,35,119,120,121]),(9,.cut [.ob 74 27,.ob 88 31,.ob 76 30,cxI 77 74 90 76 116] [0,1,2,15,16,20,24,28,33,35,120,123]),(9,.cut [.ob 123 27,.ob 137 31,.ob 125 30,cxI 126 123 139 125 165] [0,1,2,15,16,20,24,28,33,35,168,169,170]),(9,.cut [.ob 123 27,.ob 137 31,.ob 125 30,cxI 126 123 139 125 165] [0,1,2,15,16,20,24,28,33,35,169,172]),(9,.cut [.ob 72 27,.ob 86 31,.ob 74 30,cxI 75 72 88 74 114] [0,1,2,15,16,18,26,31,33,117,118,119]),(9,.cut [.ob 72 27,.ob 86 31,.ob 74 30,cxI 75 72 88 74 114] [0,1,2,15,16,18,26,31,33,118,121]),(9,.cut [.ob 121 27,.ob 135 31,.ob 123 30,cxI 124 121 137 123 163] [0,1,2,15,16,18,26,31,33,166,167,168]),(9,.cut [.ob 121 27,.ob 135 31,.ob 123 30,cxI 124 121 137 123 163] [0,1,2,15,16,18,26,31,33,167,170]),(12,.loop [.ob 74 27,cxI 77 74 90 76 116] 18446744073709551616 1),(12,.loop [.ob 123 27,cxI 126 123 139 125 165] 18446744073709551616 1),(12,.loop [.ob 72 27,cxI 75 72 88 74 114] 18446744073709551616 1),(12,.loop [.ob 121 27,cxI 124 121 137 123 163] 18446744073709551616 1)]),(15,[(7,.unroll 3),(15,.loopR [.rg 12 sI_] 18446744073709551616 2)]),(29,[(4,.loopR [.rg 0 (.row 61),.rg 1 (.row 61),.rg 5 sI_] 18446744073709551616 0)]),(31,[(3,.loop [.rg 14 sI_,.rg 3 (.row 6),cxI 77 74 90 76 116] 18446744073709551616 0),(3,.loop [.rg 14 sI_,.rg 3 (.row 6),cxI 126 123 139 125 165] 18446744073709551616 0),(3,.loop [.rg 14 sI_,.rg 3 (.row 6),cxI 75 72 88 74 114] 18446744073709551616 0),(3,.loop [.rg 14 sI_,.rg 3 (.row 6),cxI 124 121 137 123 163] 18446744073709551616 0)])] f).getD []) [(12,.cut [.rg 104 .b] [0,1,2,15,16,17,18,20,21,24])] fun x =>by kernel_rfl
noncomputable def aHA (y2:List Int) (self:ajf→Option (ajf)) (x:ajf):Option (ajf) :=
 if x.1<((y2.length:Nat):Int) then
 if 0≤x.1∧x.1<((y2.length:Nat):Int) then
 (aaU (acg y2 x.1)).bind fun r =>
 (aaD x.2.1.m).bind fun q =>
 (ahA [r.1.1] (0,x.2) q).bind fun z =>
 aea q.1.1 z.1 z.2.2.2.2.1 fun e g =>self (wi (x.1+1),e,z.2.1,z.2.2.1,z.2.2.2.1,g,())
 else none
 else some x
noncomputable def aEl (c:Cfg) (l:List EntV) (y2:List Int) (K:ajf→Option ((Bool×Unit)×Unit)):Option ((Bool×Unit)×Unit) :=
 (adp c).bind fun r1 =>
 if r1.1.2.1≠0 then
 if r1.1.2.1≠0 then none else none
 else
 (aeJ c).bind fun r2 =>
 if c.workers=((2:Nat):Int) then
 (abv 0).bind fun w0 =>
 (abv 1).bind fun w1 =>
 (lpF (ams l) 18446744073709551616 (0,r1.1.1,w0.1.1,w1.1.1,r2.1.1,(0,[],0,0,0,0,()),())).bind fun z =>
 (lpF (aHA y2) 18446744073709551616 (0,z.2)).bind K
 else none
noncomputable def atp (c:Cfg) (x y:ajf):Option ((Bool×Unit)×Unit) :=
 aIH x.2.1 y.2.1 x.2.2.2.2.2.1 y.2.2.2.2.2.1 fun a b =>
 if 0≤c.workers then azW x.2.2.1 y.2.2.1 (acW a b 0 (if 1≤c.workers then azW x.2.2.2.1 y.2.2.2.1 (acW a b 1 (if 2≤c.workers then aIG x.2.2.2.2.1 y.2.2.2.2.1 (acW a b 2 (if 3≤c.workers then aoZ ([]) ([]) (acW a b 3 none) else some ((true,()),()))) else some ((true,()),()))) else some ((true,()),()))) else some ((true,()),())
noncomputable def aLd (c:Cfg) (y2:List Int) (y3:Int) (l:List EntV):Option ((Bool×Unit)×Unit) :=
 (afe c l y2).bind fun r5 =>
 ash c y2 y3 r5 (some ((true,()),())) (some ((false,()),())) fun k =>
 (ad2 c l y2).bind fun p =>
 (ad2 c l (aeE y2 k)).bind fun q =>
 if p.1.2.1=0 then
 if q.1.2.1=0 then
 (aaN p.1.1 q.1.1).bind fun r =>
 if r.1.1=true then
 aEl c l y2 fun x =>gC c (gC c (aEl c l (aeE y2 k) fun y =>gC c (atp c x y)))
 else some ((false,()),())
 else some ((false,()),())
 else some ((false,()),())
noncomputable def abk (y0:List Int) (y1:List Int) (y2:List Int) (y3:Int) (y4:Bool):Option ((Bool×Unit)×(Unit)) :=
 (aq5 y0 ([])).bind fun r1 =>
 if (!r1.1.1)=true then some ((true,()),())
 else
 if 600<((y1.length:Nat):Int) then some ((true,()),())
 else
 if 40<((y2.length:Nat):Int) then some ((true,()),())
 else
 if ((y2.length:Nat):Int)<2 then some ((true,()),())
 else
 (agX y0).bind fun r2 =>
 (al5 y1 300).bind fun r3 =>
 if y4=true then
 (abI r2.1.1).bind fun r4 =>
 if (((r4.1.1.length+r3.1.1.length:Nat)):Int)<1000000000000 then
 aLd r2.1.1 y2 y3 (r4.1.1++r3.1.1)
 else none
 else
 aLd r2.1.1 y2 y3 r3.1.1
noncomputable abbrev afD:Con SR1:=⟨5,[.sh (.ro 17),.sh (.ro 17),.sh (.ro 1),.sh sI_,.sh .b],[.sh .b],fun x =>abk x.1 x.2.1 x.2.2.1 x.2.2.2.1 x.2.2.2.2.1⟩
noncomputable def afj:List (Nat×Func):=[(14,Tryz.f14),(26,Tryz.f26),(41,Tryz.f41),(52,Tryz.f52),(42,Tryz.f42),(16,Tryz.f16),(15,Tryz.f15),(28,Tryz.f28),(30,Tryz.f30),(29,Tryz.f29),(31,Tryz.f31),(32,Tryz.f32),(33,Tryz.f33)]
theorem afk:CO Tryz.prog afD:=agL aai Tryz.func5 [anj,ai0,akG,acu,afW,act,acv,ab9,abm,afr,ab8,adA,aeg,ad9,aaZ,ab0,abd,aba,abG,ab5,abc,aci,acl,acQ,ai3,acS,ac7,adu,acU] ⟨ani,aiZ,ale,adh,ahW,adg,adi,acr,abQ,ahc,acq,adz,ad6,ad4,aa7,acd,abr,abn,abP,ace,abq,acR,acT,ads,ajD,adv,adO,ad7,adE,trivial⟩ afj ⟨Tryz.func14,Tryz.func26,Tryz.func41,Tryz.func52,Tryz.func42,Tryz.func16,Tryz.func15,Tryz.func28,Tryz.func30,Tryz.func29,Tryz.func31,Tryz.func32,Tryz.func33,trivial⟩ (fun f =>(get [(14,[(3,.loop [.rg 8 sI_,.ob 74 27,.ob 88 31,.ob 102 31,.ob 76 30,cxI 77 74 104 76 133] 18446744073709551616 0),(3,.loop [.rg 8 sI_,.ob 140 27,.ob 154 31,.ob 168 31,.ob 142 30,cxI 143 140 170 142 199] 18446744073709551616 0),(3,.loop [.rg 8 sI_,.ob 72 27,.ob 86 31,.ob 100 31,.ob 74 30,cxI 75 72 102 74 131] 18446744073709551616 0),(3,.loop [.rg 8 sI_,.ob 138 27,.ob 152 31,.ob 166 31,.ob 140 30,cxI 141 138 168 140 197] 18446744073709551616 0)]),(41,[(6,.spl 22 [2] 3)]),(52,[(2,.unroll 3)]),(42,[(1,.loop [.rg 8 sI_,.ob 74 27,.ob 88 31,.ob 102 31,.ob 76 30,cxI 77 74 104 76 133] 18446744073709551616 0),(1,.loop [.rg 8 sI_,.ob 140 27,.ob 154 31,.ob 168 31,.ob 142 30,cxI 143 140 170 142 199] 18446744073709551616 0),(1,.loop [.rg 8 sI_,.ob 72 27,.ob 86 31,.ob 100 31,.ob 74 30,cxI 75 72 102 74 131] 18446744073709551616 0),(1,.loop [.rg 8 sI_,.ob 138 27,.ob 152 31,.ob 166 31,.ob 140 30,cxI 141 138 168 140 197] 18446744073709551616 0)]),(16,[(9,.cut [.ob 74 27,.ob 88 31,.ob 102 31,.ob 76 30,cxI 77 74 104 76 133] [0,1,2,15,16,20,24,28,33,35,136,137,138]),(9,.cut [.ob 74 27,.ob 88 31,.ob 102 31,.ob 76 30,cxI 77 74 104 76 133] [0,1,2,15,16,20,24,28,33,35,137,140]),(9,.cut [.ob 140 27,.ob 154 31,.ob 168 31,.ob 142 30,cxI 143 140 170 142 199] [0,1,2,15,16,20,24,28,33,35,202,203,204]),(9,.cut [.ob 140 27,.ob 154 31,.ob 168 31,.ob 142 30,cxI 143 140 170 142 199] [0,1,2,15,16,20,24,28,33,35,203,206]),(9,.cut [.ob 72 27,.ob 86 31,.ob 100 31,.ob 74 30,cxI 75 72 102 74 131] [0,1,2,15,16,18,26,31,33,134,135,136]),(9,.cut [.ob 72 27,.ob 86 31,.ob 100 31,.ob 74 30,cxI 75 72 102 74 131] [0,1,2,15,16,18,26,31,33,135,138]),(9,.cut [.ob 138 27,.ob 152 31,.ob 166 31,.ob 140 30,cxI 141 138 168 140 197] [0,1,2,15,16,18,26,31,33,200,201,202]),(9,.cut [.ob 138 27,.ob 152 31,.ob 166 31,.ob 140 30,cxI 141 138 168 140 197] [0,1,2,15,16,18,26,31,33,201,204]),(12,.loop [.ob 74 27,cxI 77 74 104 76 133] 18446744073709551616 1),(12,.loop [.ob 140 27,cxI 143 140 170 142 199] 18446744073709551616 1),(12,.loop [.ob 72 27,cxI 75 72 102 74 131] 18446744073709551616 1),(12,.loop [.ob 138 27,cxI 141 138 168 140 197] 18446744073709551616 1)]),(15,[(7,.unroll 4),(15,.loopR [.rg 12 sI_] 18446744073709551616 2)]),(29,[(4,.loopR [.rg 0 (.row 61),.rg 1 (.row 61),.rg 5 sI_] 18446744073709551616 0)]),(31,[(3,.loop [.rg 14 sI_,.rg 3 (.row 6),cxI 77 74 104 76 133] 18446744073709551616 0),(3,.loop [.rg 14 sI_,.rg 3 (.row 6),cxI 143 140 170 142 199] 18446744073709551616 0),(3,.loop [.rg 14 sI_,.rg 3 (.row 6),cxI 75 72 102 74 131] 18446744073709551616 0),(3,.loop [.rg 14 sI_,.rg 3 (.row 6),cxI 141 138 168 140 197] 18446744073709551616 0)])] f).getD []) [(12,.cut [.rg 104 .b] [0,1,2,15,16,17,18,20,21,24])] fun x =>by kernel_rfl
noncomputable def aA4 (y0:Cfg) (y2:List Int) (self:List AccV×Int×EnvP×(WorkerV MV)×(WorkerV MV)×(WorkerV MV)×(ClientV MV)×ain×Unit→Option (List AccV×Int×EnvP×(WorkerV MV)×(WorkerV MV)×(WorkerV MV)×(ClientV MV)×ain×Unit)) (x:List AccV×Int×EnvP×(WorkerV MV)×(WorkerV MV)×(WorkerV MV)×(ClientV MV)×ain×Unit):Option (List AccV×Int×EnvP×(WorkerV MV)×(WorkerV MV)×(WorkerV MV)×(ClientV MV)×ain×Unit) :=
 if x.2.1<((y2.length:Nat):Int) then
  if 0≤x.2.1∧x.2.1<((y2.length:Nat):Int) then
   (avc (acg y2 x.2.1) (wi (y0.workers+1))).bind fun r =>
   (aaD x.2.2.1.m).bind fun q =>
   (ahz [(⟨0,r.1.1⟩:EntV)] (0,x.2.2) q).bind fun z =>
   aea q.1.1 z.1 z.2.2.2.2.2.1 fun e g =>
   if (((x.1.length+([(⟨g.2.2.1,g.2.2.2.1,g.2.2.2.2.1,g.2.2.2.2.2.1⟩:AccV)]:List AccV).length:Nat)):Int)<1000000000000 then
   self (x.1++([(⟨g.2.2.1,g.2.2.2.1,g.2.2.2.2.1,g.2.2.2.2.2.1⟩:AccV)]),wi (x.2.1+1),e,z.2.1,z.2.2.1,z.2.2.2.1,z.2.2.2.2.1,g,())
   else none
  else none
 else some x
noncomputable def adZ (y0:Cfg) (y1:List EntV) (y2:List Int):Option ((List AccV×Int×Unit)×(Unit)) :=
 (adp y0).bind fun r1 =>
 if r1.1.2.1≠0 then
  if r1.1.2.1≠0 then some (([],r1.1.2.1,()),())
  else if 64<((y2.length:Nat):Int) then some (([],2,()),()) else none
 else
 (aeJ y0).bind fun r2 =>
 if y0.workers=((3:Nat):Int) then
  (abv 0).bind fun w0 =>
  (abv 1).bind fun w1 =>
  (abv 2).bind fun w2 =>
  if 64<((y2.length:Nat):Int) then some (([],2,()),())
  else
  (lpF (amr y1) 18446744073709551616 (0,r1.1.1,w0.1.1,w1.1.1,w2.1.1,r2.1.1,(0,[],0,0,0,0,()),())).bind fun z =>
  (lpF (aA4 y0 y2) 18446744073709551616 ([],0,z.2.1,z.2.2.1,z.2.2.2.1,z.2.2.2.2.1,z.2.2.2.2.2.1,z.2.2.2.2.2.2.1,())).bind fun q =>some ((q.1,0,()),())
 else none
noncomputable abbrev agf:Con SR1:=⟨23,[.val 13,.sh (.ro 5),.sh (.ro 1)],[.sh (.row 60),.sh sI_],fun x =>adZ x.1 x.2.1 x.2.2.1⟩
noncomputable def ant:List (Nat×Func):=[(41,Tryz.f41),(42,Tryz.f42),(52,Tryz.f52),(16,Tryz.f16),(43,Tryz.f43)]
theorem aif:CO Tryz.prog agf:=agL aai Tryz.func23 [adA,aeg,ad9,aaZ,ab0,abd,aba,abG,ab5,abc,aiT] ⟨adz,ad6,ad4,aa7,acd,abr,abn,abP,ace,abq,agU,trivial⟩ ant ⟨Tryz.func41,Tryz.func42,Tryz.func52,Tryz.func16,Tryz.func43,trivial⟩ (fun f =>(get [(41,[(6,.spl 22 [3] 4)]),(42,[(1,.loop [.rg 8 sI_,.ob 15 27,.ob 29 31,.ob 43 31,.ob 57 31,.ob 17 30,cxI 18 15 59 17 91] 18446744073709551616 0)]),(52,[(2,.unroll 4)]),(16,[(9,.cut [.ob 15 27,.ob 29 31,.ob 43 31,.ob 57 31,.ob 17 30,cxI 18 15 59 17 91] [9,10,11,12,94,95,96]),(9,.cut [.ob 15 27,.ob 29 31,.ob 43 31,.ob 57 31,.ob 17 30,cxI 18 15 59 17 91] [9,10,11,12,94,96,98]),(12,.loop [.ob 15 27,cxI 18 15 59 17 91] 18446744073709551616 1)])] f).getD []) [(9,.loop [.rg 10 (.row 60),.rg 29 sI_,.ob 15 27,.ob 29 31,.ob 43 31,.ob 57 31,.ob 17 30,cxI 18 15 59 17 91] 18446744073709551616 0)] fun x =>by kernel_rfl
noncomputable def aeP (y0:Cfg) (y1:List EntV) (y2:List Int):Option ((List Int×Int×Unit)×(Unit)):=(adZ y0 y1 y2).bind (aF7 y0 y2)
noncomputable abbrev ahU:Con SR1:=⟨10,[.val 13,.sh (.ro 5),.sh (.ro 1)],[.sh (.row 1),.sh sI_],fun x =>aeP x.1 x.2.1 x.2.2.1⟩
theorem alA:CO Tryz.prog ahU:=aal aai Tryz.func10 [agf,aiT,aca] ⟨aif,agU,acz,trivial⟩ [(7,.loop [.rg 34 sI_,.rg 10 (.row 1),.rg 11 (.own 64)] 18446744073709551616 0),(11,.loop [.rg 49 sI_,.rg 11 (.own 64)] 18446744073709551616 2),(20,.loop [.rg 14 (.row 1),.rg 15 sU_,.rg 85 sI_] 18446744073709551616 4),(23,.loop [.rg 16 sI_,.rg 89 sI_] 18446744073709551616 6)]
noncomputable def agZ (y0:Cfg) (y1:List EntV) (y2:List Int):Option ((List AccV×Int×Unit)×(Unit)) :=
 (adZ y0 y1 y2).bind fun r1 =>
 some ((r1.1.1,r1.1.2.1,()),())
noncomputable abbrev aij:Con SR1:=⟨18,[.val 13,.sh (.ro 5),.sh (.ro 1)],[.sh (.row 60),.sh sI_],fun x =>agZ x.1 x.2.1 x.2.2.1⟩
theorem amb:CO Tryz.prog aij:=aal aai Tryz.func18 [agf] ⟨aif,trivial⟩
noncomputable def aHz (y2:List Int) (self:aje→Option (aje)) (x:aje):Option (aje) :=
 if x.1<((y2.length:Nat):Int) then
 if 0≤x.1∧x.1<((y2.length:Nat):Int) then
 (aaU (acg y2 x.1)).bind fun r =>
 (aaD x.2.1.m).bind fun q =>
 (ahz [r.1.1] (0,x.2) q).bind fun z =>
 aea q.1.1 z.1 z.2.2.2.2.2.1 fun e g =>self (wi (x.1+1),e,z.2.1,z.2.2.1,z.2.2.2.1,z.2.2.2.2.1,g,())
 else none
 else some x
noncomputable def aEk (c:Cfg) (l:List EntV) (y2:List Int) (K:aje→Option ((Bool×Unit)×Unit)):Option ((Bool×Unit)×Unit) :=
 (adp c).bind fun r1 =>
 if r1.1.2.1≠0 then
 if r1.1.2.1≠0 then none else none
 else
 (aeJ c).bind fun r2 =>
 if c.workers=((3:Nat):Int) then
 (abv 0).bind fun w0 =>
 (abv 1).bind fun w1 =>
 (abv 2).bind fun w2 =>
 (lpF (amr l) 18446744073709551616 (0,r1.1.1,w0.1.1,w1.1.1,w2.1.1,r2.1.1,(0,[],0,0,0,0,()),())).bind fun z =>
 (lpF (aHz y2) 18446744073709551616 (0,z.2)).bind K
 else none
noncomputable def ato (c:Cfg) (x y:aje):Option ((Bool×Unit)×Unit) :=
 aIH x.2.1 y.2.1 x.2.2.2.2.2.2.1 y.2.2.2.2.2.2.1 fun a b =>
 if 0≤c.workers then azW x.2.2.1 y.2.2.1 (acW a b 0 (if 1≤c.workers then azW x.2.2.2.1 y.2.2.2.1 (acW a b 1 (if 2≤c.workers then azW x.2.2.2.2.1 y.2.2.2.2.1 (acW a b 2 (if 3≤c.workers then aIG x.2.2.2.2.2.1 y.2.2.2.2.2.1 (acW a b 3 (if 4≤c.workers then aoZ ([]) ([]) (acW a b 4 none) else some ((true,()),()))) else some ((true,()),()))) else some ((true,()),()))) else some ((true,()),()))) else some ((true,()),())
noncomputable def aLc (c:Cfg) (y2:List Int) (y3:Int) (l:List EntV):Option ((Bool×Unit)×Unit) :=
 (agZ c l y2).bind fun r5 =>
 ash c y2 y3 r5 (some ((true,()),())) (some ((false,()),())) fun k =>
 (aeP c l y2).bind fun p =>
 (aeP c l (aeE y2 k)).bind fun q =>
 if p.1.2.1=0 then
 if q.1.2.1=0 then
 (aaN p.1.1 q.1.1).bind fun r =>
 if r.1.1=true then
 aEk c l y2 fun x =>gC c (gC c (aEk c l (aeE y2 k) fun y =>gC c (ato c x y)))
 else some ((false,()),())
 else some ((false,()),())
 else some ((false,()),())
noncomputable def abj (y0:List Int) (y1:List Int) (y2:List Int) (y3:Int) (y4:Bool):Option ((Bool×Unit)×(Unit)) :=
 (aq5 y0 ([])).bind fun r1 =>
 if (!r1.1.1)=true then some ((true,()),())
 else
 if 600<((y1.length:Nat):Int) then some ((true,()),())
 else
 if 40<((y2.length:Nat):Int) then some ((true,()),())
 else
 if ((y2.length:Nat):Int)<2 then some ((true,()),())
 else
 (agX y0).bind fun r2 =>
 (al5 y1 300).bind fun r3 =>
 if y4=true then
 (abI r2.1.1).bind fun r4 =>
 if (((r4.1.1.length+r3.1.1.length:Nat)):Int)<1000000000000 then
 aLc r2.1.1 y2 y3 (r4.1.1++r3.1.1)
 else none
 else
 aLc r2.1.1 y2 y3 r3.1.1
noncomputable abbrev afC:Con SR1:=⟨5,[.sh (.ro 17),.sh (.ro 17),.sh (.ro 1),.sh sI_,.sh .b],[.sh .b],fun x =>abj x.1 x.2.1 x.2.2.1 x.2.2.2.1 x.2.2.2.2.1⟩
noncomputable def afh:List (Nat×Func):=[(14,Tryz.f14),(26,Tryz.f26),(41,Tryz.f41),(52,Tryz.f52),(42,Tryz.f42),(16,Tryz.f16),(15,Tryz.f15),(28,Tryz.f28),(30,Tryz.f30),(29,Tryz.f29),(31,Tryz.f31),(32,Tryz.f32),(33,Tryz.f33)]
theorem afi:CO Tryz.prog afC:=agL aai Tryz.func5 [anj,ai0,akG,acu,aij,act,acv,ab9,abm,ahU,ab8,adA,aeg,ad9,aaZ,ab0,abd,aba,abG,ab5,abc,aci,acl,acQ,ai3,acS,ac7,adu,acU] ⟨ani,aiZ,ale,adh,amb,adg,adi,acr,abQ,alA,acq,adz,ad6,ad4,aa7,acd,abr,abn,abP,ace,abq,acR,acT,ads,ajD,adv,adO,ad7,adE,trivial⟩ afh ⟨Tryz.func14,Tryz.func26,Tryz.func41,Tryz.func52,Tryz.func42,Tryz.func16,Tryz.func15,Tryz.func28,Tryz.func30,Tryz.func29,Tryz.func31,Tryz.func32,Tryz.func33,trivial⟩ (fun f =>(get [(14,[(3,.loop [.rg 8 sI_,.ob 74 27,.ob 88 31,.ob 102 31,.ob 116 31,.ob 76 30,cxI 77 74 118 76 150] 18446744073709551616 0),(3,.loop [.rg 8 sI_,.ob 157 27,.ob 171 31,.ob 185 31,.ob 199 31,.ob 159 30,cxI 160 157 201 159 233] 18446744073709551616 0),(3,.loop [.rg 8 sI_,.ob 72 27,.ob 86 31,.ob 100 31,.ob 114 31,.ob 74 30,cxI 75 72 116 74 148] 18446744073709551616 0),(3,.loop [.rg 8 sI_,.ob 155 27,.ob 169 31,.ob 183 31,.ob 197 31,.ob 157 30,cxI 158 155 199 157 231] 18446744073709551616 0)]),(41,[(6,.spl 22 [3] 4)]),(52,[(2,.unroll 4)]),(42,[(1,.loop [.rg 8 sI_,.ob 74 27,.ob 88 31,.ob 102 31,.ob 116 31,.ob 76 30,cxI 77 74 118 76 150] 18446744073709551616 0),(1,.loop [.rg 8 sI_,.ob 157 27,.ob 171 31,.ob 185 31,.ob 199 31,.ob 159 30,cxI 160 157 201 159 233] 18446744073709551616 0),(1,.loop [.rg 8 sI_,.ob 72 27,.ob 86 31,.ob 100 31,.ob 114 31,.ob 74 30,cxI 75 72 116 74 148] 18446744073709551616 0),(1,.loop [.rg 8 sI_,.ob 155 27,.ob 169 31,.ob 183 31,.ob 197 31,.ob 157 30,cxI 158 155 199 157 231] 18446744073709551616 0)]),(16,[(9,.cut [.ob 74 27,.ob 88 31,.ob 102 31,.ob 116 31,.ob 76 30,cxI 77 74 118 76 150] [0,1,2,15,16,20,24,28,33,35,153,154,155]),(9,.cut [.ob 74 27,.ob 88 31,.ob 102 31,.ob 116 31,.ob 76 30,cxI 77 74 118 76 150] [0,1,2,15,16,20,24,28,33,35,154,157]),(9,.cut [.ob 157 27,.ob 171 31,.ob 185 31,.ob 199 31,.ob 159 30,cxI 160 157 201 159 233] [0,1,2,15,16,20,24,28,33,35,236,237,238]),(9,.cut [.ob 157 27,.ob 171 31,.ob 185 31,.ob 199 31,.ob 159 30,cxI 160 157 201 159 233] [0,1,2,15,16,20,24,28,33,35,237,240]),(9,.cut [.ob 72 27,.ob 86 31,.ob 100 31,.ob 114 31,.ob 74 30,cxI 75 72 116 74 148] [0,1,2,15,16,18,26,31,33,151,152,153]),(9,.cut [.ob 72 27,.ob 86 31,.ob 100 31,.ob 114 31,.ob 74 30,cxI 75 72 116 74 148] [0,1,2,15,16,18,26,31,33,152,155]),(9,.cut [.ob 155 27,.ob 169 31,.ob 183 31,.ob 197 31,.ob 157 30,cxI 158 155 199 157 231] [0,1,2,15,16,18,26,31,33,234,235,236]),(9,.cut [.ob 155 27,.ob 169 31,.ob 183 31,.ob 197 31,.ob 157 30,cxI 158 155 199 157 231] [0,1,2,15,16,18,26,31,33,235,238]),(12,.loop [.ob 74 27,cxI 77 74 118 76 150] 18446744073709551616 1),(12,.loop [.ob 157 27,cxI 160 157 201 159 233] 18446744073709551616 1),(12,.loop [.ob 72 27,cxI 75 72 116 74 148] 18446744073709551616 1),(12,.loop [.ob 155 27,cxI 158 155 199 157 231] 18446744073709551616 1)]),(15,[(7,.unroll 5),(15,.loopR [.rg 12 sI_] 18446744073709551616 2)]),(29,[(4,.loopR [.rg 0 (.row 61),.rg 1 (.row 61),.rg 5 sI_] 18446744073709551616 0)]),(31,[(3,.loop [.rg 14 sI_,.rg 3 (.row 6),cxI 77 74 118 76 150] 18446744073709551616 0),(3,.loop [.rg 14 sI_,.rg 3 (.row 6),cxI 160 157 201 159 233] 18446744073709551616 0),(3,.loop [.rg 14 sI_,.rg 3 (.row 6),cxI 75 72 116 74 148] 18446744073709551616 0),(3,.loop [.rg 14 sI_,.rg 3 (.row 6),cxI 158 155 199 157 231] 18446744073709551616 0)])] f).getD []) [(12,.cut [.rg 104 .b] [0,1,2,15,16,17,18,20,21,24])] fun x =>by kernel_rfl
noncomputable def aA3 (y0:Cfg) (y2:List Int) (self:List AccV×Int×EnvP×(WorkerV MV)×(WorkerV MV)×(WorkerV MV)×(WorkerV MV)×(ClientV MV)×ain×Unit→Option (List AccV×Int×EnvP×(WorkerV MV)×(WorkerV MV)×(WorkerV MV)×(WorkerV MV)×(ClientV MV)×ain×Unit)) (x:List AccV×Int×EnvP×(WorkerV MV)×(WorkerV MV)×(WorkerV MV)×(WorkerV MV)×(ClientV MV)×ain×Unit):Option (List AccV×Int×EnvP×(WorkerV MV)×(WorkerV MV)×(WorkerV MV)×(WorkerV MV)×(ClientV MV)×ain×Unit) :=
 if x.2.1<((y2.length:Nat):Int) then
  if 0≤x.2.1∧x.2.1<((y2.length:Nat):Int) then
   (avc (acg y2 x.2.1) (wi (y0.workers+1))).bind fun r =>
   (aaD x.2.2.1.m).bind fun q =>
   (ahy [(⟨0,r.1.1⟩:EntV)] (0,x.2.2) q).bind fun z =>
   aea q.1.1 z.1 z.2.2.2.2.2.2.1 fun e g =>
   if (((x.1.length+([(⟨g.2.2.1,g.2.2.2.1,g.2.2.2.2.1,g.2.2.2.2.2.1⟩:AccV)]:List AccV).length:Nat)):Int)<1000000000000 then
   self (x.1++([(⟨g.2.2.1,g.2.2.2.1,g.2.2.2.2.1,g.2.2.2.2.2.1⟩:AccV)]),wi (x.2.1+1),e,z.2.1,z.2.2.1,z.2.2.2.1,z.2.2.2.2.1,z.2.2.2.2.2.1,g,())
   else none
  else none
 else some x
noncomputable def adY (y0:Cfg) (y1:List EntV) (y2:List Int):Option ((List AccV×Int×Unit)×(Unit)) :=
 (adp y0).bind fun r1 =>
 if r1.1.2.1≠0 then
  if r1.1.2.1≠0 then some (([],r1.1.2.1,()),())
  else if 64<((y2.length:Nat):Int) then some (([],2,()),()) else none
 else
 (aeJ y0).bind fun r2 =>
 if y0.workers=((4:Nat):Int) then
  (abv 0).bind fun w0 =>
  (abv 1).bind fun w1 =>
  (abv 2).bind fun w2 =>
  (abv 3).bind fun w3 =>
  if 64<((y2.length:Nat):Int) then some (([],2,()),())
  else
  (lpF (amq y1) 18446744073709551616 (0,r1.1.1,w0.1.1,w1.1.1,w2.1.1,w3.1.1,r2.1.1,(0,[],0,0,0,0,()),())).bind fun z =>
  (lpF (aA3 y0 y2) 18446744073709551616 ([],0,z.2.1,z.2.2.1,z.2.2.2.1,z.2.2.2.2.1,z.2.2.2.2.2.1,z.2.2.2.2.2.2.1,z.2.2.2.2.2.2.2.1,())).bind fun q =>some ((q.1,0,()),())
 else none
noncomputable abbrev agd:Con SR1:=⟨23,[.val 13,.sh (.ro 5),.sh (.ro 1)],[.sh (.row 60),.sh sI_],fun x =>adY x.1 x.2.1 x.2.2.1⟩
noncomputable def ans:List (Nat×Func):=[(41,Tryz.f41),(42,Tryz.f42),(52,Tryz.f52),(16,Tryz.f16),(43,Tryz.f43)]
theorem aie:CO Tryz.prog agd:=agL aai Tryz.func23 [adA,aeg,ad9,aaZ,ab0,abd,aba,abG,ab5,abc,aiT] ⟨adz,ad6,ad4,aa7,acd,abr,abn,abP,ace,abq,agU,trivial⟩ ans ⟨Tryz.func41,Tryz.func42,Tryz.func52,Tryz.func16,Tryz.func43,trivial⟩ (fun f =>(get [(41,[(6,.spl 22 [4] 5)]),(42,[(1,.loop [.rg 8 sI_,.ob 15 27,.ob 29 31,.ob 43 31,.ob 57 31,.ob 71 31,.ob 17 30,cxI 18 15 73 17 108] 18446744073709551616 0)]),(52,[(2,.unroll 5)]),(16,[(9,.cut [.ob 15 27,.ob 29 31,.ob 43 31,.ob 57 31,.ob 71 31,.ob 17 30,cxI 18 15 73 17 108] [9,10,11,12,111,112,113]),(9,.cut [.ob 15 27,.ob 29 31,.ob 43 31,.ob 57 31,.ob 71 31,.ob 17 30,cxI 18 15 73 17 108] [9,10,11,12,111,113,115]),(12,.loop [.ob 15 27,cxI 18 15 73 17 108] 18446744073709551616 1)])] f).getD []) [(9,.loop [.rg 10 (.row 60),.rg 29 sI_,.ob 15 27,.ob 29 31,.ob 43 31,.ob 57 31,.ob 71 31,.ob 17 30,cxI 18 15 73 17 108] 18446744073709551616 0)] fun x =>by kernel_rfl
noncomputable def aeO (y0:Cfg) (y1:List EntV) (y2:List Int):Option ((List Int×Int×Unit)×(Unit)):=(adY y0 y1 y2).bind (aF7 y0 y2)
noncomputable abbrev ahT:Con SR1:=⟨10,[.val 13,.sh (.ro 5),.sh (.ro 1)],[.sh (.row 1),.sh sI_],fun x =>aeO x.1 x.2.1 x.2.2.1⟩
theorem alz:CO Tryz.prog ahT:=aal aai Tryz.func10 [agd,aiT,aca] ⟨aie,agU,acz,trivial⟩ [(7,.loop [.rg 34 sI_,.rg 10 (.row 1),.rg 11 (.own 64)] 18446744073709551616 0),(11,.loop [.rg 49 sI_,.rg 11 (.own 64)] 18446744073709551616 2),(20,.loop [.rg 14 (.row 1),.rg 15 sU_,.rg 85 sI_] 18446744073709551616 4),(23,.loop [.rg 16 sI_,.rg 89 sI_] 18446744073709551616 6)]
noncomputable def agY (y0:Cfg) (y1:List EntV) (y2:List Int):Option ((List AccV×Int×Unit)×(Unit)) :=
 (adY y0 y1 y2).bind fun r1 =>
 some ((r1.1.1,r1.1.2.1,()),())
noncomputable abbrev aii:Con SR1:=⟨18,[.val 13,.sh (.ro 5),.sh (.ro 1)],[.sh (.row 60),.sh sI_],fun x =>agY x.1 x.2.1 x.2.2.1⟩
theorem ama:CO Tryz.prog aii:=aal aai Tryz.func18 [agd] ⟨aie,trivial⟩
noncomputable def aHy (y2:List Int) (self:ajd→Option (ajd)) (x:ajd):Option (ajd) :=
 if x.1<((y2.length:Nat):Int) then
 if 0≤x.1∧x.1<((y2.length:Nat):Int) then
 (aaU (acg y2 x.1)).bind fun r =>
 (aaD x.2.1.m).bind fun q =>
 (ahy [r.1.1] (0,x.2) q).bind fun z =>
 aea q.1.1 z.1 z.2.2.2.2.2.2.1 fun e g =>self (wi (x.1+1),e,z.2.1,z.2.2.1,z.2.2.2.1,z.2.2.2.2.1,z.2.2.2.2.2.1,g,())
 else none
 else some x
noncomputable def aEj (c:Cfg) (l:List EntV) (y2:List Int) (K:ajd→Option ((Bool×Unit)×Unit)):Option ((Bool×Unit)×Unit) :=
 (adp c).bind fun r1 =>
 if r1.1.2.1≠0 then
 if r1.1.2.1≠0 then none else none
 else
 (aeJ c).bind fun r2 =>
 if c.workers=((4:Nat):Int) then
 (abv 0).bind fun w0 =>
 (abv 1).bind fun w1 =>
 (abv 2).bind fun w2 =>
 (abv 3).bind fun w3 =>
 (lpF (amq l) 18446744073709551616 (0,r1.1.1,w0.1.1,w1.1.1,w2.1.1,w3.1.1,r2.1.1,(0,[],0,0,0,0,()),())).bind fun z =>
 (lpF (aHy y2) 18446744073709551616 (0,z.2)).bind K
 else none
noncomputable def atn (c:Cfg) (x y:ajd):Option ((Bool×Unit)×Unit) :=
 aIH x.2.1 y.2.1 x.2.2.2.2.2.2.2.1 y.2.2.2.2.2.2.2.1 fun a b =>
 if 0≤c.workers then azW x.2.2.1 y.2.2.1 (acW a b 0 (if 1≤c.workers then azW x.2.2.2.1 y.2.2.2.1 (acW a b 1 (if 2≤c.workers then azW x.2.2.2.2.1 y.2.2.2.2.1 (acW a b 2 (if 3≤c.workers then azW x.2.2.2.2.2.1 y.2.2.2.2.2.1 (acW a b 3 (if 4≤c.workers then aIG x.2.2.2.2.2.2.1 y.2.2.2.2.2.2.1 (acW a b 4 (if 5≤c.workers then aoZ ([]) ([]) (acW a b 5 none) else some ((true,()),()))) else some ((true,()),()))) else some ((true,()),()))) else some ((true,()),()))) else some ((true,()),()))) else some ((true,()),())
noncomputable def aLb (c:Cfg) (y2:List Int) (y3:Int) (l:List EntV):Option ((Bool×Unit)×Unit) :=
 (agY c l y2).bind fun r5 =>
 ash c y2 y3 r5 (some ((true,()),())) (some ((false,()),())) fun k =>
 (aeO c l y2).bind fun p =>
 (aeO c l (aeE y2 k)).bind fun q =>
 if p.1.2.1=0 then
 if q.1.2.1=0 then
 (aaN p.1.1 q.1.1).bind fun r =>
 if r.1.1=true then
 aEj c l y2 fun x =>gC c (gC c (aEj c l (aeE y2 k) fun y =>gC c (atn c x y)))
 else some ((false,()),())
 else some ((false,()),())
 else some ((false,()),())
noncomputable def abi (y0:List Int) (y1:List Int) (y2:List Int) (y3:Int) (y4:Bool):Option ((Bool×Unit)×(Unit)) :=
 (aq5 y0 ([])).bind fun r1 =>
 if (!r1.1.1)=true then some ((true,()),())
 else
 if 600<((y1.length:Nat):Int) then some ((true,()),())
 else
 if 40<((y2.length:Nat):Int) then some ((true,()),())
 else
 if ((y2.length:Nat):Int)<2 then some ((true,()),())
 else
 (agX y0).bind fun r2 =>
 (al5 y1 300).bind fun r3 =>
 if y4=true then
 (abI r2.1.1).bind fun r4 =>
 if (((r4.1.1.length+r3.1.1.length:Nat)):Int)<1000000000000 then
 aLb r2.1.1 y2 y3 (r4.1.1++r3.1.1)
 else none
 else
 aLb r2.1.1 y2 y3 r3.1.1
noncomputable abbrev afB:Con SR1:=⟨5,[.sh (.ro 17),.sh (.ro 17),.sh (.ro 1),.sh sI_,.sh .b],[.sh .b],fun x =>abi x.1 x.2.1 x.2.2.1 x.2.2.2.1 x.2.2.2.2.1⟩
noncomputable def aff:List (Nat×Func):=[(14,Tryz.f14),(26,Tryz.f26),(41,Tryz.f41),(52,Tryz.f52),(42,Tryz.f42),(16,Tryz.f16),(15,Tryz.f15),(28,Tryz.f28),(30,Tryz.f30),(29,Tryz.f29),(31,Tryz.f31),(32,Tryz.f32),(33,Tryz.f33)]
theorem afg:CO Tryz.prog afB:=agL aai Tryz.func5 [anj,ai0,akG,acu,aii,act,acv,ab9,abm,ahT,ab8,adA,aeg,ad9,aaZ,ab0,abd,aba,abG,ab5,abc,aci,acl,acQ,ai3,acS,ac7,adu,acU] ⟨ani,aiZ,ale,adh,ama,adg,adi,acr,abQ,alz,acq,adz,ad6,ad4,aa7,acd,abr,abn,abP,ace,abq,acR,acT,ads,ajD,adv,adO,ad7,adE,trivial⟩ aff ⟨Tryz.func14,Tryz.func26,Tryz.func41,Tryz.func52,Tryz.func42,Tryz.func16,Tryz.func15,Tryz.func28,Tryz.func30,Tryz.func29,Tryz.func31,Tryz.func32,Tryz.func33,trivial⟩ (fun f =>(get [(14,[(3,.loop [.rg 8 sI_,.ob 74 27,.ob 88 31,.ob 102 31,.ob 116 31,.ob 130 31,.ob 76 30,cxI 77 74 132 76 167] 18446744073709551616 0),(3,.loop [.rg 8 sI_,.ob 174 27,.ob 188 31,.ob 202 31,.ob 216 31,.ob 230 31,.ob 176 30,cxI 177 174 232 176 267] 18446744073709551616 0),(3,.loop [.rg 8 sI_,.ob 72 27,.ob 86 31,.ob 100 31,.ob 114 31,.ob 128 31,.ob 74 30,cxI 75 72 130 74 165] 18446744073709551616 0),(3,.loop [.rg 8 sI_,.ob 172 27,.ob 186 31,.ob 200 31,.ob 214 31,.ob 228 31,.ob 174 30,cxI 175 172 230 174 265] 18446744073709551616 0)]),(41,[(6,.spl 22 [4] 5)]),(52,[(2,.unroll 5)]),(42,[(1,.loop [.rg 8 sI_,.ob 74 27,.ob 88 31,.ob 102 31,.ob 116 31,.ob 130 31,.ob 76 30,cxI 77 74 132 76 167] 18446744073709551616 0),(1,.loop [.rg 8 sI_,.ob 174 27,.ob 188 31,.ob 202 31,.ob 216 31,.ob 230 31,.ob 176 30,cxI 177 174 232 176 267] 18446744073709551616 0),(1,.loop [.rg 8 sI_,.ob 72 27,.ob 86 31,.ob 100 31,.ob 114 31,.ob 128 31,.ob 74 30,cxI 75 72 130 74 165] 18446744073709551616 0),(1,.loop [.rg 8 sI_,.ob 172 27,.ob 186 31,.ob 200 31,.ob 214 31,.ob 228 31,.ob 174 30,cxI 175 172 230 174 265] 18446744073709551616 0)]),(16,[(9,.cut [.ob 74 27,.ob 88 31,.ob 102 31,.ob 116 31,.ob 130 31,.ob 76 30,cxI 77 74 132 76 167] [0,1,2,15,16,20,24,28,33,35,170,171,172]),(9,.cut [.ob 74 27,.ob 88 31,.ob 102 31,.ob 116 31,.ob 130 31,.ob 76 30,cxI 77 74 132 76 167] [0,1,2,15,16,20,24,28,33,35,171,174]),(9,.cut [.ob 174 27,.ob 188 31,.ob 202 31,.ob 216 31,.ob 230 31,.ob 176 30,cxI 177 174 232 176 267] [0,1,2,15,16,20,24,28,33,35,270,271,272]),(9,.cut [.ob 174 27,.ob 188 31,.ob 202 31,.ob 216 31,.ob 230 31,.ob 176 30,cxI 177 174 232 176 267] [0,1,2,15,16,20,24,28,33,35,271,274]),(9,.cut [.ob 72 27,.ob 86 31,.ob 100 31,.ob 114 31,.ob 128 31,.ob 74 30,cxI 75 72 130 74 165] [0,1,2,15,16,18,26,31,33,168,169,170]),(9,.cut [.ob 72 27,.ob 86 31,.ob 100 31,.ob 114 31,.ob 128 31,.ob 74 30,cxI 75 72 130 74 165] [0,1,2,15,16,18,26,31,33,169,172]),(9,.cut [.ob 172 27,.ob 186 31,.ob 200 31,.ob 214 31,.ob 228 31,.ob 174 30,cxI 175 172 230 174 265] [0,1,2,15,16,18,26,31,33,268,269,270]),(9,.cut [.ob 172 27,.ob 186 31,.ob 200 31,.ob 214 31,.ob 228 31,.ob 174 30,cxI 175 172 230 174 265] [0,1,2,15,16,18,26,31,33,269,272]),(12,.loop [.ob 74 27,cxI 77 74 132 76 167] 18446744073709551616 1),(12,.loop [.ob 174 27,cxI 177 174 232 176 267] 18446744073709551616 1),(12,.loop [.ob 72 27,cxI 75 72 130 74 165] 18446744073709551616 1),(12,.loop [.ob 172 27,cxI 175 172 230 174 265] 18446744073709551616 1)]),(15,[(7,.unroll 6),(15,.loopR [.rg 12 sI_] 18446744073709551616 2)]),(29,[(4,.loopR [.rg 0 (.row 61),.rg 1 (.row 61),.rg 5 sI_] 18446744073709551616 0)]),(31,[(3,.loop [.rg 14 sI_,.rg 3 (.row 6),cxI 77 74 132 76 167] 18446744073709551616 0),(3,.loop [.rg 14 sI_,.rg 3 (.row 6),cxI 177 174 232 176 267] 18446744073709551616 0),(3,.loop [.rg 14 sI_,.rg 3 (.row 6),cxI 75 72 130 74 165] 18446744073709551616 0),(3,.loop [.rg 14 sI_,.rg 3 (.row 6),cxI 175 172 230 174 265] 18446744073709551616 0)])] f).getD []) [(12,.cut [.rg 104 .b] [0,1,2,15,16,17,18,20,21,24])] fun x =>by kernel_rfl
end
end Go.Proofs.YtidhehdanppcoaaGreat
