/- The reference's engine,said plainly,2: a new one; stamped events. Scripts and configurations. What is decoded is valid. Plain safety of scripts and configurations. What is decoded is valid. Runs of an engine. Every cell of the reference's memory is a number of 64 bits. No program occurs here. Walks: small functions of the references (Draw) and of the statements' helpers (Short,Number). The plain answers of solo: places of cells,entries,readiness,the choice. Walks by program: places of cells,in the layout and in its reference. -/
import Derived.Test.YtjjbdbbmdhncjaaGreatSzam
import Derived.Test.YtjjbdbbmdhncjaaGreatSzai
import Derived.Test.YtjjbdbbmdhncjaaGreatRows
import Derived.Test.YtjjbdbbmdhncjaaGreatSzaa
import Derived.Test.YtjjbdbbmdhncjaaGreatSzab
set_option linter.all false
namespace Go.Proofs.YtjjbdbbmdhncjaaGreat
section
open Go
theorem aou (n:Int):0≤ag5 n∧ag5 n≤131072:=by
 unfold ag5
 repeat' split
 all_goals omega
theorem ay1 (n:Int):awb n=some (((⟨List.replicate (ag5 n).toNat 0,⟨0,0,0,0⟩,0⟩:MemV),()),()):=by
 have h:=aou n
 have h2:0≤ag5 n∧ag5 n≤1099511627776:=by omega
 have e:awb n=if ag5 n=ag5 n then (if 0≤ag5 n∧ag5 n≤1099511627776 then some (((⟨List.replicate (ag5 n).toNat 0,⟨0,0,0,0⟩,0⟩:MemV),()),()) else none) else none:=rfl
 rw [e,if_pos rfl,if_pos h2]
noncomputable def nrF (N:Int) (c:Cfg) (self:Int×EnvV×Unit→Option (Int×EnvV×Unit)) (x:Int×EnvV×Unit):Option (Int×EnvV×Unit) :=
 if x.1<c.tasks then
  (agt 0 (-1)).bind fun r6 =>
  if (((x.2.1.recs.length+([r6.1.1]:List RecV).length:Nat)):Int)<N then self (wi (x.1+1),({ x.2.1 with recs:=x.2.1.recs++([r6.1.1]) }:EnvV),()) else none
 else some (x.1,x.2.1,())
theorem aBW (N:Int) (hN:1000000≤N) (c:Cfg) (G:Int×EnvV×Unit→Option (Int×EnvV×Unit)) (i:Nat) (e:EnvV) (h:(i:Int)<c.tasks) (hc:c.tasks≤65535) (hr:e.recs.length=i):nrF N c G ((i:Int),e,())=G (((i+1:Nat):Int),({ e with recs:=e.recs++[akB 0 (-1)] }:EnvV),()):=by
 have e1:wi ((i:Int)+1)=((i+1:Nat):Int):=by rw [acH (aam (by omega))]; omega
 have a2:(((e.recs.length+([akB 0 (-1)]:List RecV).length:Nat)):Int)<N:=by rw [List.length_singleton]; omega
 have a3:agt 0 (-1)=some (((akB 0 (-1)),()),()):=rfl
 unfold nrF
 rw [if_pos h,a3]
 simp only [Option.bind_some]
 rw [if_pos a2,e1]
theorem aDQ (N:Int) (c:Cfg) (G:Int×EnvV×Unit→Option (Int×EnvV×Unit)) (i:Nat) (e:EnvV) (h:c.tasks≤(i:Int)):nrF N c G ((i:Int),e,())=some ((i:Int),e,()):=by
 have a1:¬ (i:Int)<c.tasks:=by omega
 unfold nrF
 simp only [a1,if_false]
theorem aBV {N:Int} (hN:1000000≤N) {c:Cfg} (hc:c.tasks≤65535) (e:EnvV):∀ (j k i:Nat),(c.tasks-i).toNat=j→(i:Int)≤c.tasks→j<k→lpF (nrF N c) k ((i:Int),({ e with recs:=List.replicate i (akB 0 (-1)) }:EnvV),())=some (c.tasks,({ e with recs:=List.replicate c.tasks.toNat (akB 0 (-1)) }:EnvV),()):=by
 intro j
 induction j with
 | zero =>
  intro k i hj hi hk
  obtain ⟨k,rfl⟩:∃ k',k=k'+1:=⟨k-1,by omega⟩
  rw [ach,aDQ _ _ _ _ _ (by omega),show (i:Int)=c.tasks by omega,show c.tasks.toNat=i by omega]
 | succ j ih =>
  intro k i hj hi hk
  obtain ⟨k,rfl⟩:∃ k',k=k'+1:=⟨k-1,by omega⟩
  rw [ach,aBW _ hN _ _ _ _ (by omega) hc (by simp)]
  have:=ih k (i+1) (by omega) (by omega) (by omega)
  rw [List.replicate_succ'] at this
  exact this
theorem av3 (cf:Cfg):auk cf=(aiB cf).bind fun r1 =>if cf.workers=cf.workers then if cf.levels=cf.levels then if cf.classes=cf.classes then if cf.tasks=cf.tasks then if cf.deque=cf.deque then if cf.heap=cf.heap then if cf.batch=cf.batch then if cf.age=cf.age then if cf.patience=cf.patience then
  (awb r1.1.1).bind fun r2 =>if cf.workers=cf.workers then if cf.levels=cf.levels then if cf.classes=cf.classes then if cf.tasks=cf.tasks then if cf.deque=cf.deque then if cf.heap=cf.heap then if cf.batch=cf.batch then if cf.age=cf.age then if cf.patience=cf.patience then
  (lpF (nrF 100000000000 cf) 18446744073709551616 (0,(⟨cf,r2.1.1,0,0,[],[]⟩:EnvV),())).bind fun z4 =>some ((z4.2.1,()),())
  else none else none else none else none else none else none else none else none else none else none else none else none else none else none else none else none else none else none:=by kernel_rfl
theorem ayZ {c:Cfg} (hc:CfgOk c):auk c=some ((aAI c,()),()):=by
 rw [av3]
 simp only [auu,ay1,Option.bind_some,if_true]
 have:=aBV (N:=100000000000) (by decide) (c:=c) hc.t2 ⟨c,⟨List.replicate (ag5 (ahE c)).toNat 0,⟨0,0,0,0⟩,0⟩,0,0,[],[]⟩ c.tasks.toNat 18446744073709551616 0 (by omega) (by have:=hc.t1; omega) (by have:=hc.t2; omega)
 rw [show ((0:Nat):Int)=0 from rfl] at this
 simp only [List.replicate_zero] at this
 rw [this]; rfl
noncomputable def nwF (N:Int) (c:Cfg) (self:Int×EngV×Unit→Option (Int×EngV×Unit)) (x:Int×EngV×Unit):Option (Int×EngV×Unit) :=
 if x.1<c.workers then
  if c.tasks≠0 then
   (ai4 (⟨25,0,⟨0,0,0,0⟩,x.1,0,0,0,(Int.tmod x.1 c.tasks),0,0,0,0,0,0,[]⟩:FrV)).bind fun r5 =>
   if (((x.2.1.m.length+([r5.1.1]:List MaV).length:Nat)):Int)<N then self (wi (x.1+1),({ x.2.1 with m:=x.2.1.m++([r5.1.1]) }:EngV),()) else none
  else none
 else some (x.1,x.2.1,())
theorem awL (f:FrV) (h:f.kind≠22):ai4 f=some (((⟨[{ f with line:=1 }],false,0,0⟩:MaV),()),()):=by
 unfold ai4; rw [if_neg h]
theorem aBU (N:Int) (hN:1000000≤N) (c:Cfg) (G:Int×EngV×Unit→Option (Int×EngV×Unit)) (i:Nat) (x:EngV) (h:(i:Int)<c.workers) (hc:CfgOk c) (hr:x.m.length=i):nwF N c G ((i:Int),x,())=G (((i+1:Nat):Int),({ x with m:=x.m++[⟨[afO c i],false,0,0⟩] }:EngV),()):=by
 have w2:=hc.w2
 have e1:wi ((i:Int)+1)=((i+1:Nat):Int):=by rw [acH (aam (by omega))]; omega
 have a2:(((x.m.length+([⟨[afO c i],false,0,0⟩]:List MaV).length:Nat)):Int)<N:=by rw [List.length_singleton]; omega
 have a3:ai4 (⟨25,0,⟨0,0,0,0⟩,(i:Int),0,0,0,(Int.tmod (i:Int) c.tasks),0,0,0,0,0,0,[]⟩:FrV)=some (((⟨[afO c i],false,0,0⟩:MaV),()),()):=awL _ (show (25:Int)≠22 by decide)
 have a4:c.tasks≠0:=by have:=hc.t1; omega
 unfold nwF
 rw [if_pos h,if_pos a4,a3]
 simp only [Option.bind_some]
 rw [if_pos a2,e1]
theorem aDP (N:Int) (c:Cfg) (G:Int×EngV×Unit→Option (Int×EngV×Unit)) (i:Nat) (x:EngV) (h:c.workers≤(i:Int)):nwF N c G ((i:Int),x,())=some ((i:Int),x,()):=by
 have a1:¬ (i:Int)<c.workers:=by omega
 unfold nwF
 simp only [a1,if_false]
theorem aBT {N:Int} (hN:1000000≤N) {c:Cfg} (hc:CfgOk c) (x:EngV):∀ (j k i:Nat),(c.workers-i).toNat=j→(i:Int)≤c.workers→j<k→lpF (nwF N c) k ((i:Int),({ x with m:=(List.range i).map (fun w =>⟨[afO c w],false,0,0⟩) }:EngV),())=some (c.workers,({ x with m:=(List.range c.workers.toNat).map (fun w =>⟨[afO c w],false,0,0⟩) }:EngV),()):=by
 have w2:=hc.w2
 intro j
 induction j with
 | zero =>
  intro k i hj hi hk
  obtain ⟨k,rfl⟩:∃ k',k=k'+1:=⟨k-1,by omega⟩
  rw [ach,aDP _ _ _ _ _ (by omega),show (i:Int)=c.workers by omega,show c.workers.toNat=i by omega]
 | succ j ih =>
  intro k i hj hi hk
  obtain ⟨k,rfl⟩:∃ k',k=k'+1:=⟨k-1,by omega⟩
  rw [ach,aBU _ hN _ _ _ _ (by omega) hc (by simp)]
  have:=ih k (i+1) (by omega) (by omega) (by omega)
  rw [List.range_succ,List.map_append] at this
  exact this
noncomputable def nwT (N:Int) (x:EngV):Option ((EngV×Unit)×Unit):=(ai4 (⟨26,0,⟨0,0,0,0⟩,0,0,0,0,0,0,0,0,0,0,0,[]⟩:FrV)).bind fun r6 =>
  if (((x.m.length+([r6.1.1]:List MaV).length:Nat)):Int)<N then some ((({ x with m:=x.m++([r6.1.1]) }:EngV),()),()) else none
theorem aDO (N:Int) (hN:1000000≤N) (x:EngV) (h:x.m.length≤1000):nwT N x=some ((({ x with m:=x.m++[⟨[{ frK 26 with line:=1 }],false,0,0⟩] }:EngV),()),()):=by
 have hm:ai4 (⟨26,0,⟨0,0,0,0⟩,0,0,0,0,0,0,0,0,0,0,0,[]⟩:FrV)=some (((⟨[{ frK 26 with line:=1 }],false,0,0⟩:MaV),()),()):=awL _ (show (26:Int)≠22 by decide)
 have a2:(((x.m.length+([⟨[{ frK 26 with line:=1 }],false,0,0⟩]:List MaV).length:Nat)):Int)<N:=by rw [List.length_singleton]; omega
 unfold nwT
 rw [hm]
 simp only [Option.bind_some]
 rw [if_pos a2]
theorem aBX (c:Cfg):asZ c=(auk c).bind fun r1 =>(lpF (nwF 100000000000 c) 18446744073709551616 (0,(⟨r1.1.1,[],0,[],⟨0,0,0,0⟩⟩:EngV),())).bind fun z3 =>nwT 100000000000 z3.2.1:=by kernel_rfl
theorem aDR {c:Cfg} (hc:CfgOk c):asZ c=some ((aBZ c,()),()):=by
 have w1:=hc.w1
 have w2:=hc.w2
 have h1:(auk c)=some ((aAI c,()),()):=ayZ hc
 have this:lpF (nwF 100000000000 c) 18446744073709551616 (0,(⟨aAI c,[],0,[],⟨0,0,0,0⟩⟩:EngV),())=some (c.workers,(⟨aAI c,(List.range c.workers.toNat).map (fun w =>⟨[afO c w],false,0,0⟩),0,[],⟨0,0,0,0⟩⟩:EngV),()) := 
  aBT (N:=100000000000) (by decide) hc ⟨aAI c,[],0,[],⟨0,0,0,0⟩⟩ c.workers.toNat 18446744073709551616 0 (by omega) (by omega) (by omega)
 have h2:nwT 100000000000 (⟨aAI c,(List.range c.workers.toNat).map (fun w =>⟨[afO c w],false,0,0⟩),0,[],⟨0,0,0,0⟩⟩:EngV)=some ((aBZ c,()),()):=aDO _ (by decide) _ (by simp; omega)
 refine (aBX c).trans ?_
 generalize 100000000000=N at this h2 ⊢
 rw [h1,Option.bind_some]
 dsimp only
 rw [this,Option.bind_some]
 exact h2
theorem aBY {c:Cfg} (hc:CfgOk c):EngP 1 (aBZ c):=by
 have w1:=hc.w1
 have w2:=hc.w2
 have t1:=hc.t1
 have t2:=hc.t2
 refine ⟨⟨hc,⟨by simp [aBZ,aAI]; omega,fun r hr =>?_⟩,⟨Nat.zero_le _,fun e he =>by cases he⟩,rg0,rg0⟩,fun y hy =>?_,by simp [aBZ],by simp [aBZ]; omega,Nat.zero_le _,Nat.zero_le _,List.Pairwise.nil,fun s hs =>(by cases hs),⟨Int.le_refl 0,by show (0:Int)≤1; decide⟩⟩
 ·rw [(List.mem_replicate.1 hr).2]
  exact ⟨Nat.zero_le _,fun x hx =>by cases hx⟩
 ·rcases List.mem_append.1 hy with hy | hy
  ·obtain ⟨w,hw,rfl⟩:=List.mem_map.1 hy
   rw [List.mem_range] at hw
   have hw2:Rg (w:Int):=aam (by omega)
   have hw3:Rg (Int.tmod (w:Int) c.tasks):=anK t1 (by omega)
   refine .inr ⟨afO c w,[],rfl,?_,adA (by show (25:Int)≠24; decide) (by show (25:Int)≠26; decide) (by show (25:Int)≠21; decide),trivial,fun p hp =>by cases hp⟩
   constructor<;>(try dsimp only [afO,frK])<;>first | exact hw2 | exact hw3 | exact rg0 | exact Nat.zero_le _ | (intro x hx; cases hx; done) | decide
  ·rw [List.mem_singleton] at hy
   subst hy
   refine .inr ⟨{ frK 26 with line:=1 },[],rfl,?_,⟨fun e =>(by cases e),fun _ =>⟨Int.le_refl 0,by show (0:Int)≤(c.subs.length:Int); omega⟩,fun e =>by cases e⟩,trivial,fun p hp =>by cases hp⟩
   constructor<;>(try dsimp only [frK])<;>first | exact rg0 | exact Nat.zero_le _ | (intro x hx; cases hx; done) | decide
end
section
open Go Go.RowKit
set_option maxRecDepth 100000
variable [Tb]
noncomputable def aCa (m:Int):Option ((EntV×Unit)×(Unit)) :=
 some (((⟨0,m⟩:EntV),()),())
noncomputable abbrev awZ:Con SR1:=⟨28,[.sh sI_],[.val 5],fun x =>aCa x.1⟩
theorem azB:CO Tryz.prog awZ:=abc abb Tryz.func28 [] trivial [] trivial (fun _ =>[]) [] fun x =>by kernel_rfl
noncomputable def aeY (l:List Int) (i:Int) (n:Int):Option ((Int×Unit)×(Unit)) :=
 if ((l.length:Nat):Int)=0 then
  some ((0,()),())
 else
 if ((l.length:Nat):Int)≠0 then
  if 0≤(Int.tmod i ((l.length:Nat):Int))∧(Int.tmod i ((l.length:Nat):Int))<((l.length:Nat):Int) then
   if ((l.length:Nat):Int)≠0 then
   if (wi (1+(Int.tmod (wi (Int.tdiv i ((l.length:Nat):Int))) 7)))≠0 then
   (aje (wi (Int.tdiv (au9 l (Int.tmod i ((l.length:Nat):Int))) (wi (1+(Int.tmod (wi (Int.tdiv i ((l.length:Nat):Int))) 7))))) n).bind fun r1 =>
   some ((r1.1.1,()),())
   else none
   else none
  else none
 else none
noncomputable abbrev aqm:Con SR1:=⟨7,[.sh (.ro 1),.sh sI_,.sh sI_],[.sh sI_],fun x =>aeY x.1 x.2.1 x.2.2.1⟩
theorem auE:CO Tryz.prog aqm:=abc abb Tryz.func7 [ahY] ⟨ahr,trivial⟩ [] trivial (fun _ =>[]) [] fun x =>by kernel_rfl
noncomputable def aoC (c:Cfg):Option ((List EntV×Unit)×(Unit)) :=
 (lpF (σ:=List EntV×Int×Unit) (β:=List EntV×Int×Unit) (fun self3 x1 =>
  if x1.2.1<(wi (40*((c.subs.length:Nat):Int))) then
   (aCa c.workers).bind fun r4 =>
   if (((x1.1.length+([r4.1.1]:List EntV).length:Nat)):Int)<1000000000000 then
   self3 (x1.1++([r4.1.1]),wi (x1.2.1+1),())
   else none
  else
  some (x1.1,x1.2.1,())
 ) 18446744073709551616 ([],0,())).bind fun z2 =>
 some ((z2.1,()),())
noncomputable abbrev aql:Con SR1:=⟨10,[.val 13],[.sh (.row 5)],fun x =>aoC x.1⟩
theorem auD:CO Tryz.prog aql:=abc abb Tryz.func10 [awZ] ⟨azB,trivial⟩ [] trivial (fun _ =>[]) [(3,.loop [.rg 3 (.row 5),.rg 4 sI_] 18446744073709551616 0)] fun x =>by kernel_rfl
noncomputable def ak0 (b:List Int):Option ((List EntV×Unit)×(Unit)) :=
 (lpF (σ:=List EntV×Int×Unit) (β:=List EntV×Int×Unit) (fun self3 x1 =>
  if (wi (x1.2.1+1))<((b.length:Nat):Int) then
   if ((x1.1.length:Nat):Int)<65536 then
   if 0≤x1.2.1∧x1.2.1<((b.length:Nat):Int) then
   if 0≤wi (x1.2.1+1)∧wi (x1.2.1+1)<((b.length:Nat):Int) then
   if (adm b (wi (x1.2.1+1)))=(adm b (wi (x1.2.1+1))) then
   if (adm b x1.2.1)=(adm b x1.2.1) then
   if (Int.tmod (wi (adm b x1.2.1)) 4)=1 then
   if (((x1.1.length+([(⟨(Int.tmod (wi (adm b x1.2.1)) 4),0⟩:EntV)]:List EntV).length:Nat)):Int)<1000000000000 then
   self3 (x1.1++([(⟨(Int.tmod (wi (adm b x1.2.1)) 4),0⟩:EntV)]),wi (x1.2.1+2),())
   else none
   else
   if (Int.tmod (wi (adm b x1.2.1)) 4)=3 then
   if (((x1.1.length+([(⟨(Int.tmod (wi (adm b x1.2.1)) 4),0⟩:EntV)]:List EntV).length:Nat)):Int)<1000000000000 then
   self3 (x1.1++([(⟨(Int.tmod (wi (adm b x1.2.1)) 4),0⟩:EntV)]),wi (x1.2.1+2),())
   else none
   else
   if (((x1.1.length+([(⟨(Int.tmod (wi (adm b x1.2.1)) 4),wi (adm b (wi (x1.2.1+1)))⟩:EntV)]:List EntV).length:Nat)):Int)<1000000000000 then
   self3 (x1.1++([(⟨(Int.tmod (wi (adm b x1.2.1)) 4),wi (adm b (wi (x1.2.1+1)))⟩:EntV)]),wi (x1.2.1+2),())
   else none
   else none
   else none
   else none
   else none
   else
   some (x1.1,x1.2.1,())
  else
  some (x1.1,x1.2.1,())
 ) 18446744073709551616 ([],0,())).bind fun z2 =>
 some ((z2.1,()),())
noncomputable abbrev ang:Con SR1:=⟨29,[.sh (.ro 17)],[.sh (.row 5)],fun x =>ak0 x.1⟩
theorem arz:CO Tryz.prog ang:=abc abb Tryz.func29 [] trivial [] trivial (fun _ =>[]) [(3,.loop [.rg 3 (.row 5),.rg 4 sI_] 18446744073709551616 0)] fun x =>by kernel_rfl
noncomputable def aoB (b:List Int) (n:Int):Option ((List EntV×Unit)×(Unit)) :=
 (ak0 b).bind fun r1 =>
 if n<((r1.1.1.length:Nat):Int) then
  if 0≤n∧n≤((r1.1.1.length:Nat):Int) then
   some ((r1.1.1.take (n:Int).toNat,()),())
  else none
 else
 some ((r1.1.1,()),())
noncomputable abbrev aqk:Con SR1:=⟨11,[.sh (.ro 17),.sh sI_],[.sh (.row 5)],fun x =>aoB x.1 x.2.1⟩
theorem auC:CO Tryz.prog aqk:=abc abb Tryz.func11 [ang] ⟨arz,trivial⟩ [] trivial (fun _ =>[]) [] fun x =>by kernel_rfl
end
section
open Go
theorem at2 (b:List Int) (l:List (List Int)) (hl:l.length≤1000000):ade (atg b l) fun o =>o.1.1=true→b.length≤400∧∀ x∈l,x.length≤400:=by
 unfold atg
 refine ade.bind (P:=fun z =>(∀ o,z=.inr o→o.1.1=false)∧(∀ y,z=.inl y→∀ x∈l,x.length≤400)) (agz (fun x =>0≤x.1∧x.1≤(l.length:Int)∧∀ i:Nat,(i:Int)<x.1→∀ y,l[i]?=some y→y.length≤400) (fun x =>((l.length:Int)-x.1).toNat) (fun self x ⟨q0,q1,q2⟩ ih =>?_) _ _ ⟨Int.le_refl 0,by show (0:Int)≤(l.length:Int); omega,fun i hi =>by omega⟩ (by show ((l.length:Int)-0).toNat<_; omega)) fun z hz =>?_
 rotate_left
 ·have e2:wi (x.1+1)=x.1+1:=acH (aam (by omega))
  rw [e2]
  refine ade.ite (fun hlt =>.guard ⟨q0,hlt⟩ fun _ =>ade.ite (fun _ =>.some_ ⟨fun o e =>(by cases e; rfl),fun y e =>(by cases e)⟩) fun h4 =>ih _ ⟨by show 0≤x.1+1; omega,by show x.1+1≤(l.length:Int); omega,fun i hi y hy =>?_⟩ (by show ((l.length:Int)-(x.1+1)).toNat<((l.length:Int)-x.1).toNat; omega)) fun hlt =>.some_ ⟨fun o e =>(by cases e),fun y e x' hx' =>?_⟩
  ·by_cases hi2:(i:Int)<x.1
   ·exact q2 i hi2 y hy
   ·have hi3:i=x.1.toNat:=by have:(i:Int)<x.1+1:=hi; omega
    have h5:=aej (d:=([]:List Int)) (xs:=l) (i:=x.1) ⟨q0,hlt⟩
    rw [hi3,h5] at hy
    cases hy
    omega
  ·obtain ⟨i,hi,rfl⟩:=List.getElem_of_mem hx'
   exact q2 i (by omega) _ (List.getElem?_eq_getElem hi)
 ·rcases z with y | o
  ·refine .some_ fun e =>⟨?_,hz.2 y rfl⟩
   have:((b.length:Nat):Int)≤400:=of_decide_eq_true e
   omega
  ·exact .some_ fun e =>by rw [hz.1 o rfl] at e; cases e
structure DecOk (c:Cfg):Prop where
 w:1≤c.workers∧c.workers≤4
 l:1≤c.levels∧c.levels≤4
 k:1≤c.classes∧c.classes≤3∧c.classes≤c.levels
 t:1≤c.tasks∧c.tasks≤12
 q:1≤c.deque∧c.deque≤4
 h:1≤c.heap∧c.heap≤4
 b:1≤c.batch∧c.batch≤c.deque
 a:0≤c.age∧c.age≤5
 p:1≤c.patience∧c.patience≤8
 pn:1≤c.progs.length∧c.progs.length≤4
 pl:∀ x∈c.progs,x.length≤5
 ps:∀ x∈c.progs,∀ i∈x,(i.op=0∧1≤i.a∧i.a≤4∧i.b=0)∨(i.op=1∧0≤i.a∧i.a<(c.progs.length:Int)∧0≤i.b∧i.b<c.levels)∨(i.op=2∧0≤i.a∧i.a≤3∧i.b=0)
 sn:c.subs.length≤5
 ss:∀ s∈c.subs,(0≤s.prog∧s.prog<(c.progs.length:Int))∧(0≤s.level∧s.level<c.levels)∧0≤s.deadline∧s.deadline≤15
structure CodOk (N:Int) (r:CodV):Prop where
 by_:∀ x∈r.inn,0≤x∧x≤255
 ln:r.inn.length≤1000000
 at_:0≤r.at_∧r.at_≤N
theorem acm {N:Int} {r:CodV} {k:Int} (h:CodOk N r) (hN:N≤1000000) (h1:1≤k) (h2:k≤1000):ade (ab6 r k) fun o =>(0≤o.1.1∧o.1.1<k)∧CodOk (N+1) o.2.1:=by
 have ha:=h.at_
 have e1:wi (r.at_+1)=r.at_+1:=acH (aam (by omega))
 unfold ab6
 rw [e1]
 refine ade.ite (fun hlt =>.guard ⟨ha.1,hlt⟩ fun _ =>.guard (by omega) fun _ =>.some_ ⟨?_,h.by_,h.ln,by show 0≤r.at_+1; omega,by show r.at_+1≤N+1; omega⟩) fun _ =>.some_ ⟨⟨Int.le_refl 0,by show (0:Int)<k; omega⟩,h.by_,h.ln,by show 0≤r.at_+1; omega,by show r.at_+1≤N+1; omega⟩
 have hb:=h.by_ _ (au2 (d:=dfR 17) (xs:=r.inn) (i:=r.at_) ⟨ha.1,hlt⟩)
 have e2:wi (adm r.inn r.at_)=adm r.inn r.at_:=acH (aam (x:=adm r.inn r.at_) ⟨by have:=hb.1; exact Int.le_trans (by decide) this,by have:=hb.2; exact Int.le_trans this (by decide)⟩)
 rw [e2]
 exact avi h1 hb.1
theorem CodOk.up {N M:Int} {r:CodV} (h:CodOk N r) (hl:N≤M):CodOk M r:=⟨h.by_,h.ln,h.at_.1,by have:=h.at_; omega⟩
def ast (n lv:Int) (i:Ins):Prop:=(i.op=0∧1≤i.a∧i.a≤4∧i.b=0)∨(i.op=1∧0≤i.a∧i.a<n∧0≤i.b∧i.b<lv)∨(i.op=2∧0≤i.a∧i.a≤3∧i.b=0)
def aFN (n lv:Int) (s:Sub):Prop:=(0≤s.prog∧s.prog<n)∧(0≤s.level∧s.level<lv)∧0≤s.deadline∧s.deadline≤15
structure NumOk (c:Cfg):Prop where
 w:1≤c.workers∧c.workers≤4
 l:1≤c.levels∧c.levels≤4
 k:1≤c.classes∧c.classes≤3∧c.classes≤c.levels
 t:1≤c.tasks∧c.tasks≤12
 q:1≤c.deque∧c.deque≤4
 h:1≤c.heap∧c.heap≤4
 b:1≤c.batch∧c.batch≤c.deque
 a:0≤c.age∧c.age≤5
 p:1≤c.patience∧c.patience≤8
theorem w1p {x:Int} (h:0≤x) (h2:x≤1000000):wi (1+x)=1+x:=acH (aam (by omega))
theorem ar9 {b:List Int} (hb:∀ x∈b,0≤x∧x≤255) (hl:b.length≤1000000):ade (akZ b) fun o =>DecOk o.1.1:=by
 unfold akZ
 refine (acm (N:=0) (k:=4) ⟨hb,hl,Int.le_refl 0,Int.le_refl 0⟩ (by decide) (by decide) (by decide)).bind fun r1 h1 =>?_
 refine (acm (k:=4) h1.2 (by decide) (by decide) (by decide)).bind fun r2 h2 =>?_
 have w1:=w1p h1.1.1 (by omega)
 have w2:=w1p h2.1.1 (by omega)
 rw [w1,w2]
 refine (acm h2.2 (by decide) (by split<;>omega) (by split<;>omega)).bind fun r3 h3 =>?_
 refine (acm (k:=12) h3.2 (by decide) (by decide) (by decide)).bind fun r4 h4 =>?_
 refine (acm (k:=4) h4.2 (by decide) (by decide) (by decide)).bind fun r5 h5 =>?_
 refine (acm (k:=4) h5.2 (by decide) (by decide) (by decide)).bind fun r6 h6 =>?_
 have h3':r3.1.1<3∧r3.1.1<1+r2.1.1:=by
  have:=h3.1.2
  split at this<;>omega
 have w3:=w1p h3.1.1 (by omega)
 have w4:=w1p h4.1.1 (by omega)
 have w5:=w1p h5.1.1 (by omega)
 have w6:=w1p h6.1.1 (by omega)
 rw [w3,w4,w5,w6]
 refine (acm h6.2 (by decide) (by omega) (by omega)).bind fun r7 h7 =>?_
 refine (acm (k:=6) h7.2 (by decide) (by decide) (by decide)).bind fun r8 h8 =>?_
 refine (acm (k:=8) h8.2 (by decide) (by decide) (by decide)).bind fun r9 h9 =>?_
 refine (acm (k:=4) h9.2 (by decide) (by decide) (by decide)).bind fun r10 h10 =>?_
 have w7:=w1p h7.1.1 (by omega)
 have w9:=w1p h9.1.1 (by omega)
 have w10:=w1p h10.1.1 (by omega)
 rw [w7,w9,w10]
 refine ade.bind (P:=fun z =>CodOk 1000 z.2.1∧NumOk z.2.2.1∧z.2.2.1.levels=1+r2.1.1∧(z.2.2.1.progs.length:Int)=1+r10.1.1∧(∀ p∈z.2.2.1.progs,p.length≤5∧∀ i∈p,ast (1+r10.1.1) (1+r2.1.1) i)∧z.2.2.1.subs=[])
  (agz (fun x =>0≤x.1∧x.1≤1+r10.1.1∧CodOk (10+30*x.1) x.2.1∧NumOk x.2.2.1∧x.2.2.1.levels=1+r2.1.1∧(x.2.2.1.progs.length:Int)=x.1∧(∀ p∈x.2.2.1.progs,p.length≤5∧∀ i∈p,ast (1+r10.1.1) (1+r2.1.1) i)∧x.2.2.1.subs=[])
   (fun x =>(1+r10.1.1-x.1).toNat) (fun self x ⟨q0,q1,q2,q3,q4,q5,q6,q7⟩ ih =>?step) _ _ ⟨Int.le_refl 0,by show (0:Int)≤1+r10.1.1; omega,h10.2,?num,rfl,rfl,fun p hp =>(by cases hp),rfl⟩ (by show (1+r10.1.1-0).toNat<_; omega)) fun z hz =>?cont
 case step =>
  have f1:wi (x.1+1)=x.1+1:=acH (aam (by omega))
  refine ade.ite (fun hlt =>?_) fun hlt =>.some_ ⟨q2.up (by omega),q3,q4,by show (x.2.2.1.progs.length:Int)=_; omega,q6,q7⟩
  have hlen:(x.2.2.1.progs.length:Int)<10:=by omega
  rw [f1]
  refine (acm (k:=6) q2 (by omega) (by decide) (by decide)).bind fun r14 h14 =>?_
  refine ade.bind (P:=fun z =>z.1.length≤5∧(∀ i∈z.1,ast (1+r10.1.1) (1+r2.1.1) i)∧CodOk (10+30*x.1+26) z.2.2.1)
   (agz (fun y =>0≤y.2.1∧(y.1.length:Int)+y.2.1=r14.1.1∧CodOk (10+30*x.1+1+5*(r14.1.1-y.2.1)) y.2.2.1∧∀ i∈y.1,ast (1+r10.1.1) (1+r2.1.1) i)
    (fun y =>y.2.1.toNat) (fun self y ⟨p0,p1,p2,p3⟩ ih =>?_) _ _ ⟨h14.1.1,by show ((0:Nat):Int)+r14.1.1=_; omega,h14.2.up (by show 10+30*x.1+1≤10+30*x.1+1+5*(r14.1.1-r14.1.1); omega),fun i hi =>(by cases hi)⟩ (by show r14.1.1.toNat<_; omega)) fun z hz =>?_
  ·refine .guard (by show (((x.2.2.1.progs.length+1:Nat)):Int)<_; omega) fun _ =>ih _ ⟨by show 0≤x.1+1; omega,by show x.1+1≤_; omega,hz.2.2.up (by show 10+30*x.1+26≤10+30*(x.1+1); omega),⟨q3.w,q3.l,q3.k,q3.t,q3.q,q3.h,q3.b,q3.a,q3.p⟩,q4,?_,?_,q7⟩ ?_
   ·show (((x.2.2.1.progs++[z.1]).length:Nat):Int)=x.1+1
    rw [List.length_append,List.length_singleton]; omega
   ·intro p hp
    rcases List.mem_append.1 hp with hp | hp
    ·exact q6 p hp
    ·rw [List.mem_singleton] at hp; subst hp; exact ⟨hz.1,hz.2.1⟩
   ·show (1+r10.1.1-(x.1+1)).toNat<(1+r10.1.1-x.1).toNat
    omega
  ·have f2:wi (y.2.1-1)=y.2.1-1:=acH (aam (by omega))
   have hyl:y.1.length≤5:=by omega
   refine ade.ite (fun hlt2 =>?_) fun hlt2 =>.some_ ⟨hyl,p3,p2.up (by omega)⟩
   rw [f2,q4]
   have nx:∀ (u:Ins) (r:CodV),ast (1+r10.1.1) (1+r2.1.1) u→CodOk (10+30*x.1+1+5*(r14.1.1-(y.2.1-1))) r→ade (if (((y.1.length+([u]:List Ins).length:Nat)):Int)<1000000000000 then self (y.1++[u],y.2.1-1,r,()) else none) fun z =>z.1.length≤5∧(∀ i∈z.1,ast (1+r10.1.1) (1+r2.1.1) i)∧CodOk (10+30*x.1+26) z.2.2.1:=fun u r hu hr =>
    .guard (by show (((y.1.length+1:Nat)):Int)<_; omega) fun _ =>ih _ ⟨by show 0≤y.2.1-1; omega,by
     show (((y.1++[u]).length:Nat):Int)+(y.2.1-1)=_
     rw [List.length_append,List.length_singleton]; omega,hr,fun i hi =>by
     rcases List.mem_append.1 hi with hi | hi
     ·exact p3 i hi
     ·rw [List.mem_singleton] at hi; subst hi; exact hu⟩ (by show (y.2.1-1).toNat<y.2.1.toNat; omega)
   refine (acm (k:=3) p2 (by omega) (by decide) (by decide)).bind fun r18 h18 =>?_
   refine ade.ite (fun e0 =>?_) fun e0 =>ade.ite (fun e1 =>?_) fun e1 =>?_
   ·refine (acm (k:=4) h18.2 (by omega) (by decide) (by decide)).bind fun r19 h19 =>?_
    rw [w1p h19.1.1 (by omega)]
    exact nx _ _ (.inl ⟨e0,by show 1≤1+r19.1.1; omega,by show 1+r19.1.1≤4; omega,rfl⟩) (h19.2.up (by omega))
   ·refine (acm (k:=1+r10.1.1) h18.2 (by omega) (by omega) (by omega)).bind fun r20 h20 =>?_
    refine (acm (k:=1+r2.1.1) h20.2 (by omega) (by omega) (by omega)).bind fun r21 h21 =>?_
    exact nx _ _ (.inr (.inl ⟨e1,h20.1.1,h20.1.2,h21.1.1,h21.1.2⟩)) (h21.2.up (by omega))
   ·refine (acm (k:=4) h18.2 (by omega) (by decide) (by decide)).bind fun r22 h22 =>?_
    exact nx _ _ (.inr (.inr ⟨by show r18.1.1=2; omega,h22.1.1,by show r22.1.1≤3; omega,rfl⟩)) (h22.2.up (by omega))
 case num =>
  refine ⟨?_,?_,?_,?_,?_,?_,?_,?_,?_⟩
  ·exact ⟨by show 1≤1+r1.1.1; omega,by show 1+r1.1.1≤4; omega⟩
  ·exact ⟨by show 1≤1+r2.1.1; omega,by show 1+r2.1.1≤4; omega⟩
  ·exact ⟨by show 1≤1+r3.1.1; omega,by show 1+r3.1.1≤3; omega,by show 1+r3.1.1≤1+r2.1.1; omega⟩
  ·exact ⟨by show 1≤1+r4.1.1; omega,by show 1+r4.1.1≤12; omega⟩
  ·exact ⟨by show 1≤1+r5.1.1; omega,by show 1+r5.1.1≤4; omega⟩
  ·exact ⟨by show 1≤1+r6.1.1; omega,by show 1+r6.1.1≤4; omega⟩
  ·exact ⟨by show 1≤1+r7.1.1; omega,by show 1+r7.1.1≤1+r5.1.1; omega⟩
  ·exact ⟨h8.1.1,by show r8.1.1≤5; omega⟩
  ·exact ⟨by show 1≤1+r9.1.1; omega,by show 1+r9.1.1≤8; omega⟩
 case cont =>
  obtain ⟨g1,g2,g3,g4,g5,g6⟩:=hz
  refine (acm (k:=6) g1 (by decide) (by decide) (by decide)).bind fun r23 h23 =>?_
  refine ade.bind (P:=fun y =>DecOk y.2.2.1)
   (agz (fun y =>0≤y.1∧(y.2.2.1.subs.length:Int)+y.1=r23.1.1∧CodOk (1001+5*(r23.1.1-y.1)) y.2.1∧NumOk y.2.2.1∧y.2.2.1.levels=1+r2.1.1∧(y.2.2.1.progs.length:Int)=1+r10.1.1∧(∀ p∈y.2.2.1.progs,p.length≤5∧∀ i∈p,ast (1+r10.1.1) (1+r2.1.1) i)∧∀ s∈y.2.2.1.subs,aFN (1+r10.1.1) (1+r2.1.1) s)
    (fun y =>y.1.toNat) (fun self y ⟨p0,p1,p2,p3,p4,p5,p6,p7⟩ ih =>?_) _ _ ⟨h23.1.1,by show ((z.2.2.1.subs.length:Nat):Int)+r23.1.1=r23.1.1; rw [g6]; show ((0:Nat):Int)+r23.1.1=r23.1.1; omega,h23.2.up (by show (1001:Int)≤1001+5*(r23.1.1-r23.1.1); omega),g2,g3,g4,g5,fun s hs =>by
     have hs2:s∈z.2.2.1.subs:=hs
     rw [g6] at hs2; cases hs2⟩ (by show r23.1.1.toNat<_; omega)) fun y hy =>.some_ hy
  have f2:wi (y.1-1)=y.1-1:=acH (aam (by omega))
  have hyl:y.2.2.1.subs.length≤5:=by omega
  refine ade.ite (fun hlt =>?_) fun hlt =>.some_ ⟨p3.w,p3.l,p3.k,p3.t,p3.q,p3.h,p3.b,p3.a,p3.p,by show 1≤y.2.2.1.progs.length∧y.2.2.1.progs.length≤4; omega,fun x hx =>(p6 x hx).1,fun x hx i hi =>by
   have:=(p6 x hx).2 i hi
   rw [p5,p4]; exact this,hyl,fun s hs =>by
   have:=p7 s hs
   rw [p5,p4]; exact this⟩
  rw [f2,p4]
  refine (acm (k:=1+r10.1.1) p2 (by omega) (by omega) (by omega)).bind fun r27 h27 =>?_
  refine (acm (k:=1+r2.1.1) h27.2 (by omega) (by omega) (by omega)).bind fun r28 h28 =>?_
  refine (acm (k:=16) h28.2 (by omega) (by omega) (by omega)).bind fun r29 h29 =>?_
  refine .guard (by show (((y.2.2.1.subs.length+1:Nat)):Int)<_; omega) fun _ =>ih _ ⟨by show 0≤y.1-1; omega,?_,h29.2.up (by show 1001+5*(r23.1.1-y.1)+1+1+1≤1001+5*(r23.1.1-(y.1-1)); omega),⟨p3.w,p3.l,p3.k,p3.t,p3.q,p3.h,p3.b,p3.a,p3.p⟩,p4,p5,p6,?_⟩ (by show (y.1-1).toNat<y.1.toNat; omega)
  ·show (((y.2.2.1.subs++[_]).length:Nat):Int)+(y.1-1)=_
   rw [List.length_append,List.length_singleton]; omega
  ·intro s hs
   rcases List.mem_append.1 hs with hs | hs
   ·exact p7 s hs
   ·rw [List.mem_singleton] at hs; subst hs
    exact ⟨h27.1,h28.1,h29.1.1,by show r29.1.1≤15; omega⟩
theorem ade.agr {α:Type} {x y:Option α} {P:α→Prop} (h1:ade x P) (h2:x=y):ade (agr x y) P:=by subst h2; rw [afL]; exact h1
theorem arM {l:List Int} {i n:Int} (h:l.length≤1000000) (hi:0≤i) (hi2:i≤1000000000):ade (aeY l i n) fun o =>o.1.1=acs (wi (Int.tdiv (au9 l (Int.tmod i l.length)) (wi (1+Int.tmod (wi (Int.tdiv i l.length)) 7)))) n∨(l=[]∧o.1.1=0):=by
 unfold aeY
 refine ade.ite (fun h0 =>.some_ (.inr ⟨List.length_eq_zero_iff.1 (by omega),rfl⟩)) fun h0 =>?_
 have h1:=Int.tmod_nonneg (b:=(l.length:Int)) (a:=i) (by omega)
 have h2:=Int.tmod_lt_of_pos i (b:=(l.length:Int)) (by omega)
 have h3:0≤Int.tdiv i (l.length:Int):=Int.tdiv_nonneg hi (by omega)
 have h4:Int.tdiv i (l.length:Int)≤i:=Int.tdiv_le_self _ hi
 have h5:wi (Int.tdiv i (l.length:Int))=Int.tdiv i (l.length:Int):=acH (aam (by omega))
 have h6:=avi (a:=Int.tdiv i (l.length:Int)) (b:=7) (by omega) (by omega)
 have h7:wi (1+Int.tmod (wi (Int.tdiv i (l.length:Int))) 7)=1+Int.tmod (Int.tdiv i (l.length:Int)) 7:=by rw [h5]; exact acH (aam (by omega))
 refine .guard h0 fun _ =>.guard (by omega) fun _ =>.guard h0 fun _ =>.guard (by rw [h7]; omega) fun _ =>?_
 rw [abD]
 exact .some_ (.inl rfl)
theorem ajp {l:List Int} {i n:Int} (h:l.length≤1000000) (hi:0≤i) (hi2:i≤1000000000) (h1:1≤n) (h2:n≤1000000000):ade (aeY l i n) fun o =>0≤o.1.1∧o.1.1<n:=by
 refine (arM h hi hi2).mono fun o ho =>?_
 rcases ho with e | ⟨_,e⟩
 ·rw [e]; exact aoV h1 (by omega)
 ·rw [e]; omega
def aAh (K:Nat) (l:List EntV):Prop:=l.length≤K∧∀ v∈l,Rg v.value
theorem aBG {b:List Int} (hb:b.length≤1000000):ade (ak0 b) fun o =>aAh 65536 o.1.1:=by
 unfold ak0
 refine ade.bind (P:=fun z =>aAh 65536 z.1) (agz (fun x =>0≤x.2.1∧x.2.1≤(b.length:Int)+2∧x.1.length≤65536∧∀ v∈x.1,Rg v.value) (fun x =>((b.length:Int)+2-x.2.1).toNat) (fun self x ⟨q0,q1,q2,q3⟩ ih =>?_) _ _ ⟨Int.le_refl 0,by show (0:Int)≤(b.length:Int)+2; omega,Nat.zero_le _,fun v hv =>by cases hv⟩ (by show ((b.length:Int)+2-0).toNat<_; omega)) fun z hz =>.some_ hz
 have e1:wi (x.2.1+1)=x.2.1+1:=acH (aam (by omega))
 have e2:wi (x.2.1+2)=x.2.1+2:=acH (aam (by omega))
 rw [e1,e2]
 refine ade.ite (fun h1 =>ade.ite (fun h2 =>.guard (by omega) fun _ =>.guard (by omega) fun _ =>.guard rfl fun _ =>.guard rfl fun _ =>?_) fun _ =>.some_ ⟨q2,q3⟩) fun _ =>.some_ ⟨q2,q3⟩
 have nx:∀ u:EntV,Rg u.value→ade (self (x.1++[u],x.2.1+2,())) fun z =>aAh 65536 z.1:=fun u hu =>ih _ ⟨by show 0≤x.2.1+2; omega,by show x.2.1+2≤(b.length:Int)+2; omega,by simp; omega,fun v hv =>by
  rcases List.mem_append.1 hv with hv | hv
  ·exact q3 v hv
  ·rw [List.mem_singleton] at hv; subst hv; exact hu⟩ (by show ((b.length:Int)+2-(x.2.1+2)).toNat<((b.length:Int)+2-x.2.1).toNat; omega)
 refine ade.ite (fun _ =>.guard (by simp; omega) fun _ =>nx _ rg0) fun _ =>ade.ite (fun _ =>.guard (by simp; omega) fun _ =>nx _ rg0) fun _ =>.guard (by simp; omega) fun _ =>nx _ (aaP _)
theorem arc {b:List Int} {n:Int} (hb:b.length≤1000000) (hn:0≤n):ade (aoB b n) fun o =>aAh n.toNat o.1.1:=by
 unfold aoB
 refine (aBG hb).bind fun r hr =>ade.ite (fun h =>.guard (by omega) fun _ =>.some_ ⟨by show (r.1.1.take n.toNat).length≤n.toNat; simp; omega,fun v hv =>hr.2 v (List.mem_of_mem_take hv)⟩) fun h =>.some_ ⟨by show r.1.1.length≤n.toNat; omega,hr.2⟩
section
variable {c:Cfg}
theorem DecOk.ok (h:DecOk c):CfgOk c:=by
 have:=h.w; have:=h.l; have:=h.k; have:=h.t; have:=h.q
 refine ⟨by omega,by omega,by omega,by omega,by omega,by omega,by omega,by omega,by omega,by omega,by have:=h.sn; omega,fun s hs =>?_,fun p hp x hx =>?_⟩
 ·obtain ⟨h1,h2,h3⟩:=h.ss s hs
  have:=h.pn
  exact ⟨aam (by omega),aam (by omega),aam (by omega)⟩
 ·have:=h.pn
  rcases h.ps p hp x hx with h0 | h0 | h0
  ·exact ⟨aam (by omega),aam (by omega),fun h1 =>absurd h0.1 h1⟩
  ·exact ⟨aam (by omega),aam (by omega),fun _ h1 =>absurd h0.1 h1⟩
  ·exact ⟨aam (by omega),aam (by omega),fun _ _ =>h0.2.1⟩
end
theorem asc {b:List Int} (hb:∀ x∈b,0≤x∧x≤255) (hl:b.length≤1000000):ade (alV b) fun o =>DecOk o.1.1:=by
 unfold alV
 exact (ar9 hb hl).bind fun r h =>.some_ h
theorem aAh.take {K:Nat} {l:List EntV} (h:aAh K l) (n:Nat):aAh K (l.take n):=⟨by rw [List.length_take]; have:=h.1; omega,fun v hv =>h.2 v (List.mem_of_mem_take hv)⟩
theorem auA {c:Cfg} (hc:CfgOk c):ade (aoC c) fun o =>o.1.1.length=40*c.subs.length∧∀ v∈o.1.1,Rg v.value:=by
 have w1:=hc.w1
 have w2:=hc.w2
 have hs:=hc.sl
 unfold aoC
 have e0:wi (40*((c.subs.length:Nat):Int))=40*((c.subs.length:Nat):Int):=acH (aam (by omega))
 rw [e0]
 refine ade.bind (P:=fun z =>z.1.length=40*c.subs.length∧∀ v∈z.1,Rg v.value) (agz (fun x =>0≤x.2.1∧x.2.1≤40*(c.subs.length:Int)∧(x.1.length:Int)=x.2.1∧∀ v∈x.1,Rg v.value) (fun x =>(40*(c.subs.length:Int)-x.2.1).toNat) (fun self x ⟨q0,q1,q2,q3⟩ ih =>?_) _ _ ⟨Int.le_refl 0,by show (0:Int)≤40*(c.subs.length:Int); omega,rfl,fun v hv =>by cases hv⟩ (by show (40*(c.subs.length:Int)-0).toNat<_; omega)) fun z hz =>.some_ hz
 refine ade.ite (fun hlt =>?_) fun hlt =>.some_ ⟨by show x.1.length=40*c.subs.length; omega,q3⟩
 have e2:wi (x.2.1+1)=x.2.1+1:=acH (aam (by omega))
 rw [show aCa c.workers=some (((⟨0,c.workers⟩:EntV),()),()) from rfl,Option.bind_some,e2]
 refine .guard (by simp; omega) fun _ =>ih _ ⟨by show 0≤x.2.1+1; omega,by show x.2.1+1≤40*(c.subs.length:Int); omega,by simp; omega,fun v hv =>?_⟩ (by show (40*(c.subs.length:Int)-(x.2.1+1)).toNat<(40*(c.subs.length:Int)-x.2.1).toNat; omega)
 rcases List.mem_append.1 hv with hv | hv
 ·exact q3 v hv
 ·rw [List.mem_singleton] at hv; subst hv; exact aam (by show -1000000000000≤c.workers∧c.workers≤1000000000000; omega)
def UR (x:Int):Prop:=0≤x∧x≤18446744073709551615
theorem aqU (x:Int):UR (wu x):=by
 show 0≤IntKind.u64.wrap x∧IntKind.u64.wrap x≤18446744073709551615
 simp only [IntKind.wrap,IntKind.bits,IntKind.signed]; simp; omega
theorem ab4 {x:Int} (h:(decide (0≤x) && decide (x≤18446744073709551615))=true):UR x:=by
 simpa [UR] using h
def UE (e:EnvV):Prop:=∀ x∈e.m.cells,UR x
structure UF (f:FrV):Prop where
 u:UR f.u
 v:UR f.v
 w:UR f.w
 x:UR f.x
structure LU (o:Lf):Prop where
 e:UE o.2.1
 f:UF o.2.2
theorem LU.ite {c:Prop} [Decidable c] {a b:Lf} (h1:LU a) (h2:LU b):LU (if c then a else b):=by split<;>assumption
theorem UF.ite {c:Prop} [Decidable c] {a b:FrV} (h1:UF a) (h2:UF b):UF (if c then a else b):=by split<;>assumption
section
variable {e:EnvV} {f:FrV}
theorem aC7 (h:UE e) (a:Int):UR (aeG e.m.cells a):=by
 by_cases ha:a.toNat<e.m.cells.length
 ·have h1:e.m.cells[a.toNat]?=some (aeG e.m.cells a):=by simp [aeG,atL,ha]; rfl
  exact h _ (List.mem_of_getElem? h1)
 ·have h1:aeG e.m.cells a=0:=by simp [aeG,atL,ha]; rfl
  rw [h1]; exact ab4 rfl
theorem aC6 (h:UE e) {k a v w:Int}:UR (e.rd k a v w):=by
 unfold EnvV.rd acc
 split
 ·exact aC7 h a
 ·exact ab4 rfl
theorem atT (h:UE e) {k a v w:Int} (h2:k=2→UR v) (h3:k=3→UR w):UE (e.ac k a v w):=by
 unfold EnvV.ac acc
 split
 ·intro x hx
  rcases List.mem_or_eq_of_mem_set hx with hx | rfl
  ·exact h x hx
  ·unfold azm
   repeat' split
   all_goals first | exact h2 (by assumption) | exact h3 (by assumption) | exact aqU _ | exact aC7 h a
 ·exact h
theorem aqW (h:UE e) {a:Int}:UE (e.lm a):=atT h (fun e =>by cases e) (fun e =>by cases e)
theorem avf (h:UE e) {a v:Int} (hv:UR v):UE (e.sm a v):=atT h (fun _ =>hv) (fun e =>by cases e)
theorem aC9 (h:UE e) {a v w:Int} (hw:UR w):UE (e.ac 3 a v w):=atT h (fun e =>by cases e) (fun _ =>hw)
theorem aFP (h:UE e) {a v w:Int}:UE (e.ac 4 a v w):=atT h (fun e =>by cases e) (fun e =>by cases e)
theorem aFZ (h:UE e) {a v w:Int}:UE (e.ac 5 a v w):=atT h (fun e =>by cases e) (fun e =>by cases e)
theorem aF0 (h:UE e) {a v w:Int}:UE (e.ac 6 a v w):=atT h (fun e =>by cases e) (fun e =>by cases e)
theorem atS (h:UE e) {k w t o l:Int}:UE (e.em k w t o l):=h
theorem aAm (h:UE e) {t:Int} {r:RecV}:UE (e.put t r):=h
theorem aA3 (a b c:Int):UR (ap4 a b c).1:=by
 unfold ap4
 split
 ·exact ab4 rfl
 ·exact aqU _
set_option maxHeartbeats 4000000 in
theorem azy (he:UE e) (hf:UF f):LU (ap2 e f)∧LU (aAB e f)∧LU (akl e f)∧LU (akI e f)∧LU (ahz e f)∧LU (ahj e f)∧LU (afD e f)∧LU (ahA e f)∧LU (akq e f)∧LU (aph e f)∧LU (akk e f)∧LU (akm e f)∧LU (apj e f)∧LU (akH e f)∧LU (akJ e f)∧LU (ahJ e f):=by
 refine ⟨?_,?_,?_,?_,?_,?_,?_,?_,?_,?_,?_,?_,?_,?_,?_,?_⟩
 all_goals (first | unfold ap2 | unfold aAB | unfold akl | unfold akI | unfold ahz | unfold ahj | unfold afD | unfold ahA | unfold akq | unfold aph | unfold akk | unfold akm | unfold apj | unfold akH | unfold akJ | unfold ahJ)
 all_goals (repeat' (with_reducible apply LU.ite))
 all_goals (refine ⟨?_,?_⟩<;>dsimp only [go,fin])
 all_goals repeat' first | exact he | exact hf | exact hf.u | exact hf.v | exact hf.w | exact hf.x | exact aqU _ | exact aC6 he | exact aA3 _ _ _ | exact ab4 rfl | exact aqW he | refine avf he ?_ | refine aC9 he ?_ | exact aFP he | exact aFZ he | exact aF0 he | refine atS ?_ | refine aAm ?_ | refine UF.mk ?_ ?_ ?_ ?_
theorem aBL (he:UE e) (hf:UF f):LU (aip e f):=by
 unfold aip
 have hb:UF (af8 e f):=by unfold af8; split<;>exact ⟨hf.u,hf.v,hf.w,hf.x⟩
 generalize af8 e f=g at hb
 have hg:UF (acK e g):=by unfold acK; split<;>exact ⟨hb.u,hb.v,hb.w,hb.x⟩
 unfold ajl
 repeat' split
 all_goals (refine ⟨?_,?_⟩<;>dsimp only [go,fin]<;>first | exact he | exact aqW he | assumption)
theorem aow (he:UE e) (hf:UF f):LU (ad6 e f):=by
 unfold ad6; split<;>exact ⟨he,hf.u,hf.v,hf.w,hf.x⟩
theorem azM (he:UE e) (hf:UF f) (t:Int):LU (agJ e f t):=by
 unfold agJ
 repeat' (with_reducible apply LU.ite)
 ·exact ⟨avf he (by exact ab4 rfl),hf.u,hf.v,hf.w,hf.x⟩
 ·exact aow (atS (aC9 he (by exact ab4 rfl))) hf
 ·exact ⟨atS (aC9 he (by exact ab4 rfl)),hf.u,hf.v,hf.w,hf.x⟩
 ·exact ⟨aqW he,hf.u,hf.v,hf.w,hf.x⟩
 ·exact aow (aqW he) ⟨hf.u,hf.v,hf.w,hf.x⟩
theorem aEW (he:UE e) (hf:UF f):LU (ayI e f):=by
 unfold ayI
 repeat' (with_reducible apply LU.ite)
 all_goals first | exact azM he hf _ | (refine ⟨?_,?_⟩<;>dsimp only [go,fin])
 all_goals repeat' first | exact he | exact hf | exact hf.u | exact hf.v | exact hf.w | exact hf.x | exact aqU _ | exact ab4 rfl | exact aqW he | refine avf he ?_ | refine aC9 he ?_ | refine atS ?_ | refine aAm ?_ | refine UF.mk ?_ ?_ ?_ ?_
theorem az4 (he:UE e) (hf:UF f):LU (ahB e f):=by
 unfold ahB
 repeat' (with_reducible apply LU.ite)
 all_goals (refine ⟨?_,?_⟩<;>dsimp only [go,fin])
 all_goals repeat' first | exact he | exact hf | exact hf.u | exact hf.v | exact hf.w | exact hf.x | exact aqU _ | exact ab4 rfl | exact aqW he | refine avf he ?_ | refine atS ?_ | refine UF.mk ?_ ?_ ?_ ?_
theorem aDY (he:UE e) (hf:UF f):LU (aeh e f):=by
 obtain ⟨h1,h2,h3,h4,h5,h6,h7,h8,h9,h10,h11,h12,h13,h14,h15,h16⟩:=azy he hf
 unfold aeh
 repeat' (with_reducible apply LU.ite)
 all_goals first | (with_reducible first | assumption | exact aBL he hf | exact aEW he hf | exact az4 he hf) | (refine ⟨?_,?_⟩<;>dsimp only [go,fin])
 all_goals repeat' first | exact he | exact hf | exact hf.u | exact hf.v | exact hf.w | exact hf.x | exact aqU _ | exact aC6 he | exact ab4 rfl | exact aqW he | refine avf he ?_ | refine aC9 he ?_ | exact aFP he | refine UF.mk ?_ ?_ ?_ ?_
structure EU (o:Option FrV×FrV):Prop where
 ch:∀ c,o.1=some c→UF c
 f:UF o.2
theorem az6 (hf:UF f):UF (aez e f):=by
 unfold aez
 repeat' (with_reducible apply UF.ite)
 all_goals exact ⟨hf.u,hf.v,hf.w,hf.x⟩
theorem EU.ite {c:Prop} [Decidable c] {a b:Option FrV×FrV} (h1:EU a) (h2:EU b):EU (if c then a else b):=by split<;>assumption
def OU (o:Option FrV):Prop:=∀ c,o=some c→UF c
theorem OU.ite {c:Prop} [Decidable c] {a b:Option FrV} (h1:OU a) (h2:OU b):OU (if c then a else b):=by split<;>assumption
theorem aoo:OU none:=fun _ h =>by cases h
theorem alI {g:FrV} (h:UF g):OU (some g):=fun _ e =>Option.some.inj e▸h
theorem aDr:OU (aAu f):=by
 unfold aAu
 repeat' (with_reducible apply OU.ite)
 all_goals first | exact aoo | exact alI ⟨ab4 rfl,ab4 rfl,ab4 rfl,ab4 rfl⟩
theorem azY:OU (amb f):=by
 unfold amb
 repeat' (with_reducible apply OU.ite)
 all_goals first | exact aoo | exact alI ⟨ab4 rfl,ab4 rfl,ab4 rfl,ab4 rfl⟩
theorem axO:OU (aiK e f):=by
 unfold aiK
 repeat' (with_reducible apply OU.ite)
 all_goals first | exact aoo | exact alI ⟨ab4 rfl,ab4 rfl,ab4 rfl,ab4 rfl⟩
theorem avc:UF (ajN e f):=by
 unfold ajN
 repeat' (with_reducible apply UF.ite)
 all_goals exact ⟨ab4 rfl,ab4 rfl,ab4 rfl,ab4 rfl⟩
theorem aCy (hf:UF f):EU (ag1 e f):=by
 have hc:UF (aez e f):=az6 hf
 have hw:UF (afj e f):=by unfold afj; split<;>exact ⟨hf.u,hf.v,hf.w,hf.x⟩
 unfold ag1
 repeat' (with_reducible apply EU.ite)
 all_goals first | exact ⟨aoo,hf⟩ | exact ⟨aDr,hc⟩ | exact ⟨azY,hf⟩ | exact ⟨axO,hf⟩ | exact ⟨alI avc,hw⟩ | exact ⟨alI ⟨ab4 rfl,ab4 rfl,ab4 rfl,ab4 rfl⟩,hf⟩
theorem aEs (he:UE e) (hf:UF f) (c v:Int):LU (ag8 e f c v):=by
 unfold ag8 atR anB amJ aCT ahL aj9 aiG
 repeat' (with_reducible apply LU.ite)
 all_goals first | exact aow he hf | exact aow (atS he) hf | exact ⟨he,hf.u,hf.v,hf.w,hf.x⟩
end
theorem atr {e:EnvV}:∀ (k:Nat) (top:FrV) (ps:List FrV),UF top→(∀ p∈ps,UF p)→UF (adv e k top ps).1∧∀ p∈(adv e k top ps).2,UF p
 | 0,_,_,h1,h2 =>⟨h1,h2⟩
 | k+1,top,ps,h1,h2 =>by
  have h:=aCy (e:=e) h1
  unfold adv
  rcases hM:ag1 e top with ⟨o,f'⟩
  rw [hM] at h
  cases o with
  | none =>exact ⟨h.f,h2⟩
  | some ch =>
   have hc:=h.ch ch rfl
   exact atr k _ _ ⟨hc.u,hc.v,hc.w,hc.x⟩ fun p hp =>by
    rcases List.mem_cons.1 hp with rfl | hp
    ·exact h.f
    ·exact h2 p hp
theorem ax4:∀ (ps:List FrV) (r:ResV) (e:EnvV) (top:FrV),UE e→UF top→(∀ p∈ps,UF p)→UE (aiL r e top ps).2.1∧∀ p∈(aiL r e top ps).2.2,UF p
 | [],r,e,top,h0,h1,_ =>by
  unfold aiL
  split
  ·exact ⟨h0,fun p hp =>by cases hp⟩
  ·exact ⟨h0,fun p hp =>by rw [List.mem_singleton] at hp; rw [hp]; exact h1⟩
 | p::ps,r,e,top,h0,h1,h2 =>by
  unfold aiL
  split
  ·have h:=aEs h0 (h2 p List.mem_cons_self) r.code r.value
   exact ax4 ps _ _ _ h.e h.f fun q hq =>h2 q (List.mem_cons_of_mem _ hq)
  ·exact ⟨h0,fun q hq =>by
    rcases List.mem_cons.1 hq with rfl | hq
    ·exact h1
    ·exact h2 q hq⟩
def UM (x:MaV):Prop:=∀ f∈x.f,UF f
theorem aBi {e:EnvV} {m:MaV} (he:UE e) (hm:UM m):UM (aib e m).2.1∧UE (aib e m).2.2:=by
 unfold aib
 split
 ·exact ⟨hm,he⟩
 split
 ·exact ⟨hm,he⟩
 ·rename_i top ps hr
  have hall:∀ p∈top::ps,UF p:=fun p hp =>hm p (List.mem_reverse.1 (hr▸hp))
  have h1:=atr (e:=e) 8 top ps (hall top List.mem_cons_self) fun p hp =>hall p (List.mem_cons_of_mem _ hp)
  have h2:=aDY he h1.1
  have h3:=ax4 (adv e 8 top ps).2 (aeh e (adv e 8 top ps).1).1 _ _ h2.e h2.f h1.2
  unfold avn
  generalize aiL (aeh e (adv e 8 top ps).1).1 (aeh e (adv e 8 top ps).1).2.1 (aeh e (adv e 8 top ps).1).2.2 (adv e 8 top ps).2=w at h3
  rcases w with ⟨o,e',s⟩
  cases o with
  | some q =>exact ⟨fun f hf =>(by cases hf),h3.1⟩
  | none =>exact ⟨fun f hf =>h3.2 f (List.mem_reverse.1 hf),h3.1⟩
structure UX (x:EngV):Prop where
 e:UE x.e
 m:∀ y∈x.m,UM y
theorem aF9 {x:EngV} (h:UX x) (v:EntV):UX (doM x v):=by
 suffices hp:UX (aeu x v) from ⟨hp.e,hp.m⟩
 unfold aeu
 repeat' split
 ·have hy:UM (aif x.m (acs v.value x.m.length)):=by
   by_cases hi:(acs v.value x.m.length).toNat<x.m.length
   ·have h1:x.m[(acs v.value x.m.length).toNat]?=some (aif x.m (acs v.value x.m.length)):=by simp [aif,atL,hi]; rfl
    exact h.m _ (List.mem_of_getElem? h1)
   ·have h1:aif x.m (acs v.value x.m.length)=(dfR 15:TR 15):=by simp [aif,atL,hi]; rfl
    rw [h1]; exact fun f hf =>by cases hf
  have h2:=aBi h.e hy
  refine ⟨h2.2,fun y hm =>?_⟩
  rcases List.mem_or_eq_of_mem_set hm with hm | rfl
  ·exact h.m y hm
  ·exact h2.1
 ·exact ⟨h.e,h.m⟩
 ·exact ⟨h.e,h.m⟩
 ·exact h
theorem aAs:∀ (l:List EntV) (x:EngV),UX x→UX (aAt x l)
 | [],_,h =>h
 | v::l,_,h =>aAs l _ (aF9 h v)
theorem aE5 (c:Cfg):UX (aBZ c):=⟨fun x hx =>by rw [(List.mem_replicate.1 hx).2]; exact ab4 rfl,fun y hy =>by
 rcases List.mem_append.1 hy with hy | hy
 ·obtain ⟨w,_,rfl⟩:=List.mem_map.1 hy
  intro f hf
  rw [List.mem_singleton] at hf
  subst hf
  exact ⟨ab4 rfl,ab4 rfl,ab4 rfl,ab4 rfl⟩
 ·rw [List.mem_singleton] at hy
  subst hy
  intro f hf
  rw [List.mem_singleton] at hf
  subst hf
  exact ⟨ab4 rfl,ab4 rfl,ab4 rfl,ab4 rfl⟩⟩
theorem avH {K:Nat} {x:EngV} (h:EngP K x) (hu:UX x) {l:List EntV} {m:Nat} (hl:aAh m l) (hK1:1≤K) (hK:K+5*m≤700000000):ade (apY x l) fun o =>EngP (K+5*m) o.2.1∧o.2.1.e.c=x.e.c∧UX o.2.1∧o.2.1.e.m.cells.length=x.e.m.cells.length:=by
 have h1:=hl.1
 obtain ⟨g1,g2,g3,g4⟩:=ayJ l K x h hl.2 hK1 (by omega)
 exact ⟨_,run_eq' h hl.2 hK1 (by omega),g1.le (by omega),g2,aAs l x hu,g4⟩
end
section
open Go.RowKit
def acJ (d n:Int):Int:=if n<1 then 0 else d % n
theorem al8 {d n:Int} (h:1≤n):0≤acJ d n∧acJ d n<n:=by
 unfold acJ; rw [if_neg (by omega)]; exact ⟨Int.emod_nonneg _ (by omega),Int.emod_lt_of_pos _ (by omega)⟩
theorem aoU {d n q r:Int} (hd:d=n*q+r) (h0:0≤r) (h1:r<n):d % n=r:=by
 rw [hd,Int.add_comm,Int.add_mul_emod_self_left]; exact Int.emod_eq_of_lt h0 h1
set_option maxHeartbeats 1000000 in
theorem azW (d n:Int) (w:World) (hn2:n≤9223372036854775807) :
  Calls Tryz.prog 24 #[.int .i64 d,.int .i64 n] w fun e w' =>e=.returned (.int .i64 (acJ d n))∧w=w':=by
 by_cases hn:n<1
 ·have hf:Hid (acJ d n=0):=by unfold acJ; exact if_pos hn
  go_enter Tryz.func24,Tryz.ntmps24
  go_wp2
  go_ret
  exact ⟨acx hf.out.symm,rfl⟩
 ·have hp:0<n:=by omega
  have hm:=Int.tmod_lt_of_pos d hp
  have hm2:-n<d.tmod n:=by
   have:=Int.tmod_lt_of_pos (-d) hp
   rw [Int.neg_tmod] at this; omega
  have hd:=Int.mul_tdiv_add_tmod d n
  by_cases hneg:d.tmod n<0
  ·have hf:Hid (acJ d n=d.tmod n+n):=by
    show acJ d n=_
    unfold acJ; rw [if_neg hn]
    exact aoU (q:=d.tdiv n-1) (by rw [Int.mul_sub]; omega) (by omega) (by omega)
   clear hd
   go_enter Tryz.func24,Tryz.ntmps24
   go_wp2
   go_ret
   exact ⟨acx hf.out.symm,rfl⟩
  ·have hf:Hid (acJ d n=d.tmod n):=by
    show acJ d n=_
    unfold acJ; rw [if_neg hn]
    exact aoU (q:=d.tdiv n) (by omega) (by omega) (by omega)
   clear hd
   go_enter Tryz.func24,Tryz.ntmps24
   go_wp2
   go_ret
   exact ⟨acx hf.out.symm,rfl⟩
end
section
open Go Go.RowKit
def afJ (x:Int):List Value:=[.int .u64 x]
def atV (i n first width:Int):Int:=if i<0∨n≤i then -1 else first+i*width
def aaY (c:Cfg):Int:=4+c.heap+c.classes+2*c.workers
def abh (c:Cfg):Int:=aaY c+c.workers*c.levels*(2+c.deque)
def aaQ (c:Cfg):Int:=abh c+5*c.tasks
def acZ (c:Cfg) (w l:Int):Int:=aaY c+(w*c.levels+l)*(2+c.deque)
def ad8 (cs:List Int) (a:Int):Int:=gi cs a.toNat
def CWf (cs:List Int):Prop:=∀ i,0≤gi cs i∧gi cs i≤18446744073709551615
theorem CWf.at_ {cs:List Int} (h:CWf cs) (a:Int):0≤ad8 cs a∧ad8 cs a≤18446744073709551615:=h _
def ara (b t:Int):Int:=IntKind.i64.wrap (IntKind.u64.wrap (b-t))
def azU (c:Cfg) (cs:List Int) (w l t:Int) (i:Nat):Int:=IntKind.i64.wrap (ad8 cs (acZ c w l+2+IntKind.u64.wrap (t+(i:Int)) % c.deque))
def aqN (c:Cfg) (cs:List Int) (w l:Int):Int:=ara (ad8 cs (acZ c w l+1)) (ad8 cs (acZ c w l))
def ae0 (c:Cfg) (cs:List Int) (w l:Int):List Int :=
 if aqN c cs w l<1∨c.deque<aqN c cs w l then [] else (List.range (aqN c cs w l).toNat).map (azU c cs w l (ad8 cs (acZ c w l)))
def acO (c:Cfg) (cs:List Int) (t:Int):Bool:=decide (0≤t) && decide (t<c.tasks) && decide (ad8 cs (abh c+t*5)=1)
def acA (c:Cfg) (cs:List Int) (w:Int):Nat→List Int×Int
 | 0 =>([],-1)
 | k+1 =>if (ae0 c cs w k).filter (acO c cs)≠[] then ((ae0 c cs w k).filter (acO c cs),k) else acA c cs w k
def abw (c:Cfg) (cs:List Int) (w:Int):List Int×Int:=acA c cs w c.levels.toNat
def aqp (x:Int):List Int→List Int
 | [] =>[x]
 | y::l =>if y≤x then y::aqp x l else x::y::l
def ab2 (l:List Int):List Int:=l.foldl (fun s x =>aqp x s) []
def alg (k:Int):Int:=k % 65536
def agE (c:Cfg) (cs:List Int) (s:Int×Int×Bool) (k:Int):Int×Int×Bool :=
 if acO c cs (alg k)=false then s
 else if s.2.2=false∨s.2.1≤ad8 cs (abh c+1+alg k*5) then (alg k,ad8 cs (abh c+1+alg k*5),true) else s
def axe (c:Cfg) (cs:List Int) (g:List Int):Int×Int×Bool:=g.foldl (agE c cs) (0,0,false)
def adQ (c:Cfg) (cs:List Int):Nat→List Int→Option Int
 | 0,_ =>none
 | f+1,ks =>if ks=[] then none else if (axe c cs (ks.take c.batch.toNat)).2.2=true then some (axe c cs (ks.take c.batch.toNat)).1 else adQ c cs f (ks.drop c.batch.toNat)
def adX (cs:List Int):Int:=IntKind.i64.wrap (ad8 cs 2)
def aaI (cs:List Int):List Int:=ab2 ((cs.drop 4).take (adX cs).toNat)
def amD (c:Cfg) (cs:List Int):Option Int:=if adX cs<1∨c.heap<adX cs then none else adQ c cs (adX cs).toNat (aaI cs)
def aaJ (c:Cfg) (cs:List Int) (draw w:Int):Nat→Int×Int
 | 0 =>(-1,-1)
 | i+1 =>
  let s:=aaJ c cs draw w i
  let v:=(acJ draw c.workers+i) % c.workers
  if v≠w∧s.2<(abw c cs v).2 then (v,(abw c cs v).2) else s
def aAp (c:Cfg) (cs:List Int) (draw w:Int):Int×Int:=aaJ c cs draw w c.workers.toNat
def ajw (c:Cfg) (cs:List Int) (w:Int):Bool:=decide (abB c=0) && decide ((cs.length:Int)=aaQ c) && decide (0≤w) && decide (w<c.workers)
def ada (c:Cfg) (cs:List Int) (draw w:Int):Option Int :=
 if ajw c cs w=false then none
 else if (abw c cs w).1≠[] then (abw c cs w).1.getLast?
 else match amD c cs with
  | some t =>some t
  | none =>if (aAp c cs draw w).1<0 then none else (abw c cs (aAp c cs draw w).1).1.head?
def abz (c:Cfg) (cs:List Int) (w l:Int):List Int:=if ajw c cs w=false∨l<0∨c.levels≤l then [] else ae0 c cs w l
structure CNums (c:Cfg):Prop where
 w:1≤c.workers∧c.workers≤16
 l:1≤c.levels∧c.levels≤64
 cl:1≤c.classes∧c.classes≤8
 t:1≤c.tasks∧c.tasks≤256
 d:1≤c.deque∧c.deque≤64
 h:1≤c.heap∧c.heap≤64
 b:1≤c.batch∧c.batch≤c.deque
 wl:1≤c.workers*c.levels∧c.workers*c.levels≤1024
 wd:1≤c.workers*c.levels*(2+c.deque)∧c.workers*c.levels*(2+c.deque)≤67584
 ld:1≤c.levels*(2+c.deque)∧c.levels*(2+c.deque)≤4224
theorem aqg {a b A B:Int} (ha:1≤a) (hA:a≤A) (hb:1≤b) (hB:b≤B):1≤a*b∧a*b≤A*B :=
 ⟨(by have h:1*1≤a*b:=Int.mul_le_mul ha hb (by omega) (by omega); omega),Int.le_trans (Int.mul_le_mul_of_nonneg_right hA (by omega)) (Int.mul_le_mul_of_nonneg_left hB (by omega))⟩
theorem aoX {c:Cfg} (h:ag0 c=true):CNums c:=by
 obtain ⟨h1,h2,h3,h4,h5,h6,h7,h8,h9,h10,h11,h12,h13,h14,_⟩:=aiD h
 have a1:=aqg h1 h2 h3 h4
 have a2:=aqg a1.1 a1.2 (b:=2+c.deque) (B:=66) (by omega) (by omega)
 have a3:=aqg h3 h4 (b:=2+c.deque) (B:=66) (by omega) (by omega)
 exact ⟨⟨h1,h2⟩,⟨h3,h4⟩,⟨h5,h6⟩,⟨h7,h8⟩,⟨h9,h10⟩,⟨h11,h12⟩,⟨h13,h14⟩,a1,a2,a3⟩
theorem ac9 {c:Cfg} (h:abB c=0):ag0 c=true:=by
 unfold abB at h
 cases hn:ag0 c with
 | true =>rfl
 | false =>simp [hn] at h
theorem aA7 (c:Cfg) (w l:Int):aaY c+w*(c.levels*(2+c.deque))+l*(2+c.deque)=acZ c w l:=by
 unfold acZ; rw [Int.add_mul,Int.mul_assoc]; omega
theorem asz {c:Cfg} (h:CNums c) {w l:Int} (hw:0≤w∧w<c.workers) (hl:0≤l∧l<c.levels) :
  (0≤w*(c.levels*(2+c.deque))∧w*(c.levels*(2+c.deque))≤67584)∧(0≤l*(2+c.deque)∧l*(2+c.deque)≤4224) ∧
  (0≤w*c.levels∧w*c.levels≤1024)∧(0≤(w*c.levels+l)*(2+c.deque)∧(w*c.levels+l)*(2+c.deque)≤67584)∧4≤acZ c w l∧acZ c w l+(2+c.deque)≤abh c:=by
 have e1:(w*c.levels+l)*(2+c.deque)=w*(c.levels*(2+c.deque))+l*(2+c.deque):=by rw [Int.add_mul,Int.mul_assoc]
 have b1:0≤w*(c.levels*(2+c.deque)):=Int.mul_nonneg hw.1 (by have:=h.ld; omega)
 have b2:0≤l*(2+c.deque):=Int.mul_nonneg hl.1 (by have:=h.d; omega)
 have b3:(w+1)*(c.levels*(2+c.deque))≤c.workers*(c.levels*(2+c.deque)):=Int.mul_le_mul_of_nonneg_right (by omega) (by have:=h.ld; omega)
 have b4:(l+1)*(2+c.deque)≤c.levels*(2+c.deque):=Int.mul_le_mul_of_nonneg_right (by omega) (by have:=h.d; omega)
 have b5:0≤w*c.levels:=Int.mul_nonneg hw.1 (by have:=h.l; omega)
 have b6:(w+1)*c.levels≤c.workers*c.levels:=Int.mul_le_mul_of_nonneg_right (by omega) (by have:=h.l; omega)
 rw [Int.add_mul,Int.one_mul] at b3 b4 b6
 have hd:=h.d; have hh:=h.h; have hc:=h.cl; have hww:=h.w; have hwd:=h.wd; have hll:=h.l; have hwl:=h.wl; have hld:=h.ld
 rw [Int.mul_assoc] at hwd
 unfold acZ abh aaY
 rw [Int.mul_assoc c.workers,e1]
 omega
theorem afw {c:Cfg} (h:CNums c):9≤abh c∧abh c≤70000∧14≤aaQ c∧aaQ c≤72000∧4+c.heap<abh c:=by
 have hd:=h.d; have hh:=h.h; have hc:=h.cl; have hww:=h.w; have hwd:=h.wd; have ht:=h.t
 unfold aaQ abh aaY; omega
abbrev cfL (c:Cfg) (l:CfgAt):List Value:=[.int .i64 c.workers,.int .i64 c.levels,.int .i64 c.classes,.int .i64 c.tasks,.int .i64 c.deque,.int .i64 c.heap,.int .i64 c.batch,.int .i64 c.age,.int .i64 c.patience,.slice l.pa c.progs.length l.pc,.slice l.sa c.subs.length l.sc]
abbrev zeL:List Value:=[.int .i64 0,.int .i64 0,.int .i64 0,.int .i64 0,.int .i64 0,.int .i64 0,.int .i64 0,.int .i64 0,.int .i64 0,.slice none 0 0,.slice none 0 0,.int .i64 0,.int .i64 0,.int .i64 0,.int .i64 0,.int .i64 0,.int .i64 0,.int .i64 0,.int .i64 0,.int .i64 0,.int .i64 0,.int .i64 0,.slice none 0 0]
abbrev zyL:List Value:=[.int .i64 0,.int .i64 0,.int .i64 0,.int .i64 0,.int .i64 0,.int .i64 0,.int .i64 0,.int .i64 0,.int .i64 0,.int .i64 0,.int .i64 0]
section
variable {r:Option Nat} {P:Program} {ops:Array Oper} {Q:Exit→Act→World→Prop} {n B:Nat} {W:World} {R R':abn} {L:List aak} {o o':Oper} {v:Value} {rest:List Oper} {d j:Nat} {c x:Bool} {K:abn→Prop}
theorem rtn (h:OQ P n B W o R L v) (k:RT r P ops Q n B W rest R' L) (hg:aek ops R o.guard true:=by exact aae) (hp:Put n R o.dst v R':=by exact aba (by kernel_rfl)):RT r P ops Q n B W (o::rest) R L:=aa5 h hg hp k
theorem qtn (h:OQ P n B W o R L v) (k:QT P ops n B W K rest R' L) (hg:aek ops R o.guard true:=by exact aae) (hp:Put n R o.dst v R':=by exact aba (by kernel_rfl)):QT P ops n B W K (o::rest) R L:=awi h hg hp k
theorem rts (h:OQ P n B W o R L v) (hm:(d,Value.bool x)∈R) (k:RT r P ops Q n B W rest R' L) (hg:o.guard=some (j,c):=by exact rfl) (h1:ops[j]?=some o':=by exact rfl) (h2:o'.dst=some d:=by exact rfl) (hb:(x == c)=true:=by exact rfl) (hp:Put n R o.dst v R':=by exact aba (by kernel_rfl)):RT r P ops Q n B W (o::rest) R L:=aa5 h (by rw [hg]; exact aep h1 h2 hm hb) hp k
theorem qts (h:OQ P n B W o R L v) (hm:(d,Value.bool x)∈R) (k:QT P ops n B W K rest R' L) (hg:o.guard=some (j,c):=by exact rfl) (h1:ops[j]?=some o':=by exact rfl) (h2:o'.dst=some d:=by exact rfl) (hb:(x == c)=true:=by exact rfl) (hp:Put n R o.dst v R':=by exact aba (by kernel_rfl)):QT P ops n B W K (o::rest) R L:=awi h (by rw [hg]; exact aep h1 h2 hm hb) hp k
theorem rtk (hm:(d,Value.bool x)∈R) (k:RT r P ops Q n B W rest R' L) (hg:o.guard=some (j,c):=by exact rfl) (h1:ops[j]?=some o':=by exact rfl) (h2:o'.dst=some d:=by exact rfl) (hb:(x == c)=false:=by exact rfl) (hp:Put n R o.dst undef R':=by exact aba (by kernel_rfl)):RT r P ops Q n B W (o::rest) R L:=avI (by rw [hg]; exact aep h1 h2 hm hb) hp k
theorem qtk (hm:(d,Value.bool x)∈R) (k:QT P ops n B W K rest R' L) (hg:o.guard=some (j,c):=by exact rfl) (h1:ops[j]?=some o':=by exact rfl) (h2:o'.dst=some d:=by exact rfl) (hb:(x == c)=false:=by exact rfl) (hp:Put n R o.dst undef R':=by exact aba (by kernel_rfl)):QT P ops n B W K (o::rest) R L:=aBI (by rw [hg]; exact aep h1 h2 hm hb) hp k
theorem rtm {X:Type} {v:X→Value} {L':X→List aak} {R':X→abn} (h:OT P n B W o R L v L') (k:∀ x,RT r P ops Q n B W rest (R' x) (L' x)) (hg:aek ops R o.guard true:=by exact aae) (hp:∀ x,Put n R o.dst (v x) (R' x):=by exact fun _ =>aba (by kernel_rfl)):RT r P ops Q n B W (o::rest) R L:=ahi h hg hp k
end
set_option maxRecDepth 100000 in
theorem ah2 (i n a b:Int) (hb:0≤i→i<n→(-9223372036854775808≤i*b∧i*b≤9223372036854775807) ∧ -9223372036854775808≤a+i*b∧a+i*b≤9223372036854775807) (B:Nat) (W:World) (L:List aak):adV Tryz.prog 137 #[.int .i64 i,.int .i64 n,.int .i64 a,.int .i64 b] B W L (.int .i64 (atV i n a b)):=by
 refine aay Tryz.func137 rfl (m:=21) rfl (Nat.le_of_ble_eq_true rfl) (R:=[(0,.int .i64 i),(1,.int .i64 n),(2,.int .i64 a),(3,.int .i64 b)]) (by kernel_rfl) ?_
 refine aag (aaa ?_)
 refine rtn (aab .const).q ?_
 refine aah (aad ?_)
 refine aag (aag (aaa ?_))
 refine rtn (aac (.tmp aap)).q ?_
 refine rtn (abE (.tmp aaf) .const).q ?_
 refine rtn (aac (.tmp aaf)).q ?_
 refine abm aaR aaR (fun h1 =>?_) (fun h1 =>?_)
 ·refine rtk aaf ?_
  refine rtk aap ?_
  refine rtk aaC ?_
  refine rtn (aat (b:=true) (.tmp aa1) .const).q ?_
  refine aah (aad ?_)
  refine acz (.tmp aaf) ?_
  refine aag (aaa ?_)
  refine aa5 (aab .const).q aae (aaj ael (by kernel_rfl)) ?_
  refine aah (aad ?_)
  refine aaz (aao ?_)
  exact aaN rfl (.cons aaf .nil) (by unfold atV; first | rw [if_pos (by omega)]; rfl | rw [if_neg (by omega)]; rfl) Ent.refl
 ·refine rts (aac (.tmp abk)).q aaf ?_
  refine rts (aac (.tmp adz)).q aap ?_
  refine rts (acr (.tmp aap) (.tmp aaf)).q aaC ?_
  refine rtn (aat (b:=false) (.tmp aa1) (.tmp aaf)).q ?_
  refine aah (aad ?_)
  refine abT (.tmp aaf) (fun h2 =>?_) (fun h2 =>?_)
  ·refine aag (aaa ?_)
   refine aa5 (aab .const).q aae (aaj ael (by kernel_rfl)) ?_
   refine aah (aad ?_)
   refine aaz (aao ?_)
   exact aaN rfl (.cons aaf .nil) (by unfold atV; first | rw [if_pos (by omega)]; rfl | rw [if_neg (by omega)]; rfl) Ent.refl
  ·refine aaD ?_
   refine aad (aag (aaa ?_))
   refine rtn (aac (.tmp acP)).q ?_
   refine rtn (aac (.tmp aff)).q ?_
   refine rtn (aac (.tmp ad3)).q ?_
   refine rtn (ae4 (.tmp aap) (.tmp aaf) (w64 (by omega) (by omega))).q ?_
   refine rtn (aaM (.tmp aa1) (.tmp aaf) (w64 (by omega) (by omega))).q ?_
   refine aa5 (aab (.tmp aaf)).q aae (aaj afH (by kernel_rfl)) ?_
   refine aah (aad (aaz ?_))
   exact aaN rfl (.cons aaf .nil) (by unfold atV; first | rw [if_pos (by omega)]; rfl | rw [if_neg (by omega)]; rfl) Ent.refl
set_option maxRecDepth 100000 in
theorem ai0 (i n a b:Int) (hb:0≤i→i<n→(-9223372036854775808≤i*b∧i*b≤9223372036854775807) ∧ -9223372036854775808≤a+i*b∧a+i*b≤9223372036854775807) (B:Nat) (W:World) (L:List aak):adV Tryz.prog 123 #[.int .i64 a,.int .i64 i,.int .i64 n,.int .i64 b] B W L (.int .i64 (atV i n a b)):=by
 refine aay Tryz.func123 rfl (m:=21) rfl (Nat.le_of_ble_eq_true rfl) (R:=[(0,.int .i64 a),(1,.int .i64 i),(2,.int .i64 n),(3,.int .i64 b)]) (by kernel_rfl) ?_
 refine aag (aaa ?_)
 refine rtn (aab .const).q ?_
 refine aah (aad ?_)
 refine aag (aag (aaa ?_))
 refine rtn (aac (.tmp aaC)).q ?_
 refine rtn (abE (.tmp aaf) .const).q ?_
 refine rtn (aac (.tmp aaf)).q ?_
 refine abm aaR aaR (fun h1 =>?_) (fun h1 =>?_)
 ·refine rtk aaf ?_
  refine rtk aap ?_
  refine rtk aaC ?_
  refine rtn (aat (b:=true) (.tmp aa1) .const).q ?_
  refine aah (aad ?_)
  refine acz (.tmp aaf) ?_
  refine aag (aaa ?_)
  refine aa5 (aab .const).q aae (aaj ael (by kernel_rfl)) ?_
  refine aah (aad ?_)
  refine aaz (aao ?_)
  exact aaN rfl (.cons aaf .nil) (by unfold atV; first | rw [if_pos (by omega)]; rfl | rw [if_neg (by omega)]; rfl) Ent.refl
 ·refine rts (aac (.tmp acU)).q aaf ?_
  refine rts (aac (.tmp aeX)).q aap ?_
  refine rts (acr (.tmp aap) (.tmp aaf)).q aaC ?_
  refine rtn (aat (b:=false) (.tmp aa1) (.tmp aaf)).q ?_
  refine aah (aad ?_)
  refine abT (.tmp aaf) (fun h2 =>?_) (fun h2 =>?_)
  ·refine aag (aaa ?_)
   refine aa5 (aab .const).q aae (aaj ael (by kernel_rfl)) ?_
   refine aah (aad ?_)
   refine aaz (aao ?_)
   exact aaN rfl (.cons aaf .nil) (by unfold atV; first | rw [if_pos (by omega)]; rfl | rw [if_neg (by omega)]; rfl) Ent.refl
  ·refine aaD ?_
   refine aad (aag (aaa ?_))
   refine rtn (aac (.tmp adK)).q ?_
   refine rtn (aac (.tmp acP)).q ?_
   refine rtn (aac (.tmp ad3)).q ?_
   refine rtn (ae4 (.tmp aap) (.tmp aaf) (w64 (by omega) (by omega))).q ?_
   refine rtn (aaM (.tmp aa1) (.tmp aaf) (w64 (by omega) (by omega))).q ?_
   refine aa5 (aab (.tmp aaf)).q aae (aaj afH (by kernel_rfl)) ?_
   refine aah (aad (aaz ?_))
   exact aaN rfl (.cons aaf .nil) (by unfold atV; first | rw [if_pos (by omega)]; rfl | rw [if_neg (by omega)]; rfl) Ent.refl
set_option maxRecDepth 100000 in
theorem afR (c:Cfg) (l:CfgAt) (hn:CNums c) (B:Nat) (W:World) (L:List aak):adV Tryz.prog 110 #[acM c l] B W L (.int .i64 (aaY c)):=by
 obtain ⟨h1,h2,h3,h4,h5,h6,h7,h8,h9,h10⟩:=hn
 refine aay Tryz.func110 rfl (m:=13) rfl (Nat.le_of_ble_eq_true rfl) (R:=[(0,acM c l)]) (by kernel_rfl) ?_
 refine aag (aaa ?_)
 refine rtm (abX (.tmp aaf) (us:=(cfL c l)) rfl) ?_
 rintro b1
 refine rtn (aab .const).q ?_
 refine aah (aad ?_)
 refine aag (aaa ?_)
 refine rtn (aan (k:=5) (o':=5) (.tmp aap) (by kernel_rfl) (by rfl)).q ?_
 refine rtn (aax (o:=0) (i:=5) (.tmp aaf) aaf (rfl) rfl (by kernel_rfl)) ?_
 refine rtn (aaM .const (.tmp aaf) (w64 (by omega) (by omega))).q ?_
 refine rtn (aan (k:=2) (o':=2) (.tmp abk) (by kernel_rfl) (by rfl)).q ?_
 refine rtn (aax (o:=0) (i:=2) (.tmp aaf) aaf (rfl) rfl (by kernel_rfl)) ?_
 refine rtn (aaM (.tmp aaC) (.tmp aaf) (w64 (by omega) (by omega))).q ?_
 refine rtn (aan (k:=0) (o':=0) (.tmp aeX) (by kernel_rfl) (by rfl)).q ?_
 refine rtn (aax (o:=0) (i:=0) (.tmp aaf) aaf (rfl) rfl (by kernel_rfl)) ?_
 refine rtn (ae4 .const (.tmp aaf) (w64 (by omega) (by omega))).q ?_
 refine rtn (aaM (.tmp aa1) (.tmp aaf) (w64 (by omega) (by omega))).q ?_
 refine aa5 (aab (.tmp aaf)).q aae (aaj akz (by kernel_rfl)) ?_
 refine aah (aad (aaz ?_))
 exact aaN rfl (.cons aaf .nil) (by unfold aaY; exact congrArg (Value.int .i64) (by omega)) Ent.drop
set_option maxRecDepth 100000 in
theorem an2 (c:Cfg) (l:CfgAt) (hn:CNums c) (B:Nat) (W:World) (L:List aak):adV Tryz.prog 65 #[acM c l] B W L (.int .i64 (aaQ c)):=by
 obtain ⟨h1,h2,h3,h4,h5,h6,h7,h8,h9,h10⟩:=hn
 have hdq:8≤aaY c∧aaY c≤200:=by unfold aaY; omega
 refine aay Tryz.func65 rfl (m:=19) rfl (Nat.le_of_ble_eq_true rfl) (R:=[(0,acM c l)]) (by kernel_rfl) ?_
 refine aag (aaa ?_)
 refine rtm (abX (.tmp aaf) (us:=(cfL c l)) rfl) ?_
 rintro b1
 refine rtn (aab .const).q ?_
 refine aah (aad (aag ?_))
 refine ad4 (by kernel_rfl) (by kernel_rfl) ?_
 refine qtn (aaB (o:=0) (i:=0) (k:=11) (us:=(cfL c l)) (.tmp aap) aaf (rfl) (by kernel_rfl) rfl rfl) ?_
 refine qtn (aaw (by kernel_rfl) (.cons (.tmp aaf) .nil) (afR c l (by first | assumption | exact ⟨h1,h2,h3,h4,h5,h6,h7,h8,h9,h10⟩) B W _)) ?_
 refine qtn (aan (k:=0) (o':=0) (.tmp aa1) (by kernel_rfl) (by rfl)).q ?_
 refine qtn (aax (o:=0) (i:=0) (.tmp aaf) aaf (rfl) rfl (by kernel_rfl)) ?_
 refine qtn (aan (k:=1) (o':=1) (.tmp acU) (by kernel_rfl) (by rfl)).q ?_
 refine qtn (aax (o:=0) (i:=1) (.tmp aaf) aaf (rfl) rfl (by kernel_rfl)) ?_
 refine qtn (ae4 (.tmp aaC) (.tmp aaf) (w64 (by omega) (by omega))).q ?_
 refine qtn (aan (k:=4) (o':=4) (.tmp adK) (by kernel_rfl) (by rfl)).q ?_
 refine qtn (aax (o:=0) (i:=4) (.tmp aaf) aaf (rfl) rfl (by kernel_rfl)) ?_
 refine qtn (aaM .const (.tmp aaf) (w64 (by omega) (by omega))).q ?_
 refine qtn (ae4 (.tmp aa1) (.tmp aaf) (w64 (by omega) (by omega))).q ?_
 refine qtn (aaM (.tmp aff) (.tmp aaf) (w64 (by omega) (by omega))).q ?_
 refine qtn (aan (k:=3) (o':=3) (.tmp ad3) (by kernel_rfl) (by rfl)).q ?_
 refine qtn (aax (o:=0) (i:=3) (.tmp aaf) aaf (rfl) rfl (by kernel_rfl)) ?_
 refine qtn (ae4 .const (.tmp aaf) (w64 (by omega) (by omega))).q ?_
 refine qtn (aaM (.tmp aa1) (.tmp aaf) (w64 (by omega) (by omega))).q ?_
 refine awi (aab (.tmp aaf)).q aae (aaj aky (by kernel_rfl)) ?_
 refine adI (aad (aaz ?_))
 exact aaN rfl (.cons aaf .nil) (by unfold aaQ abh; rfl) Ent.drop
set_option maxRecDepth 100000 in
theorem apF (c:Cfg) (l:CfgAt) (hn:CNums c) (i:Int) (B:Nat) (W:World) (L:List aak):adV Tryz.prog 128 #[acM c l,.int .i64 i] B W L (.int .i64 (atV i c.heap 4 1)):=by
 obtain ⟨h1,h2,h3,h4,h5,h6,h7,h8,h9,h10⟩:=hn
 refine aay Tryz.func128 rfl (m:=9) rfl (Nat.le_of_ble_eq_true rfl) (R:=[(0,acM c l),(1,.int .i64 i)]) (by kernel_rfl) ?_
 refine aag (aaa ?_)
 refine rtm (abX (.tmp aaf) (us:=(cfL c l)) rfl) ?_
 rintro b1
 refine rtn (aab .const).q ?_
 refine aah (aad ?_)
 refine aag (aaa ?_)
 refine rtn (aac (.tmp aa1)).q ?_
 refine rtn (aan (k:=5) (o':=5) (.tmp aaC) (by kernel_rfl) (by rfl)).q ?_
 refine rtn (aax (o:=0) (i:=5) (.tmp aaf) aaf (rfl) rfl (by kernel_rfl)) ?_
 refine rtn (aaw (by kernel_rfl) (.cons .const (.cons (.tmp aaC) (.cons (.tmp aaf) (.cons .const .nil)))) (ai0 _ _ _ _ (by intro h1 h2; refine ⟨?_,?_⟩<;>omega) B W _)) ?_
 refine aa5 (aab (.tmp aaf)).q aae (aaj ajm (by kernel_rfl)) ?_
 refine aah (aad (aaz ?_))
 exact aaN rfl (.cons aaf .nil) (by rfl) Ent.drop
set_option maxRecDepth 100000 in
theorem akn (c:Cfg) (l:CfgAt) (hn:CNums c) (t k:Int) (hk:0≤k) (hk4:k≤4) (B:Nat) (W:World) (L:List aak):adV Tryz.prog 76 #[acM c l,.int .i64 t,.int .i64 k] B W L (.int .i64 (atV t c.tasks (abh c+k) 5)):=by
 obtain ⟨h1,h2,h3,h4,h5,h6,h7,h8,h9,h10⟩:=hn
 have hdq:8≤aaY c∧aaY c≤200:=by unfold aaY; omega
 have htb:9≤aaY c+c.workers*c.levels*(2+c.deque)∧aaY c+c.workers*c.levels*(2+c.deque)≤70000:=by omega
 refine aay Tryz.func76 rfl (m:=29) rfl (Nat.le_of_ble_eq_true rfl) (R:=[(0,acM c l),(1,.int .i64 t),(2,.int .i64 k)]) (by kernel_rfl) ?_
 refine aag (aaa ?_)
 refine rtm (abX (.tmp aaf) (us:=(cfL c l)) rfl) ?_
 rintro b1
 refine rtn (aab .const).q ?_
 refine aah (aad (aag ?_))
 refine ad4 (by kernel_rfl) (by kernel_rfl) ?_
 refine qtn (aaB (o:=0) (i:=0) (k:=11) (us:=(cfL c l)) (.tmp aap) aaf (rfl) (by kernel_rfl) rfl rfl) ?_
 refine qtn (aaw (by kernel_rfl) (.cons (.tmp aaf) .nil) (afR c l (by first | assumption | exact ⟨h1,h2,h3,h4,h5,h6,h7,h8,h9,h10⟩) B W _)) ?_
 refine qtn (aan (k:=0) (o':=0) (.tmp aa1) (by kernel_rfl) (by rfl)).q ?_
 refine qtn (aax (o:=0) (i:=0) (.tmp aaf) aaf (rfl) rfl (by kernel_rfl)) ?_
 refine qtn (aan (k:=1) (o':=1) (.tmp acU) (by kernel_rfl) (by rfl)).q ?_
 refine qtn (aax (o:=0) (i:=1) (.tmp aaf) aaf (rfl) rfl (by kernel_rfl)) ?_
 refine qtn (ae4 (.tmp aaC) (.tmp aaf) (w64 (by omega) (by omega))).q ?_
 refine qtn (aan (k:=4) (o':=4) (.tmp adK) (by kernel_rfl) (by rfl)).q ?_
 refine qtn (aax (o:=0) (i:=4) (.tmp aaf) aaf (rfl) rfl (by kernel_rfl)) ?_
 refine qtn (aaM .const (.tmp aaf) (w64 (by omega) (by omega))).q ?_
 refine qtn (ae4 (.tmp aa1) (.tmp aaf) (w64 (by omega) (by omega))).q ?_
 refine qtn (aaM (.tmp aff) (.tmp aaf) (w64 (by omega) (by omega))).q ?_
 refine qtn (aac (.tmp adP)).q ?_
 refine qtn (aan (k:=3) (o':=3) (.tmp aew) (by kernel_rfl) (by rfl)).q ?_
 refine qtn (aax (o:=0) (i:=3) (.tmp aaf) aaf (rfl) rfl (by kernel_rfl)) ?_
 refine qtn (aaw (by kernel_rfl) (.cons (.tmp aa1) (.cons (.tmp aaC) (.cons (.tmp aaf) (.cons .const .nil)))) (ai0 _ _ _ _ (by intro h1 h2; refine ⟨?_,?_⟩<;>omega) B W _)) ?_
 refine qtn (aab (.tmp aaf)).q ?_
 refine adI (aad ?_)
 refine aag (aag (aaa ?_))
 refine rtn (aac (.tmp aaf)).q ?_
 refine rtn (abE (.tmp aaf) .const).q ?_
 refine aah (aad ?_)
 refine abT (.tmp aaf) (fun h2 =>?_) (fun h2 =>?_)
 ·have hat:atV t c.tasks (aaY c+c.workers*c.levels*(2+c.deque)) 5≤80000 ∧ -1≤atV t c.tasks (aaY c+c.workers*c.levels*(2+c.deque)) 5:=by unfold atV; split<;>omega
  refine aag (aaa ?_)
  refine aa5 (aab .const).q aae (aaj agY (by kernel_rfl)) ?_
  refine aah (aad ?_)
  refine aaz (aao ?_)
  exact aaN rfl (.cons aaf .nil) (by unfold atV at *; unfold abh; first | (rw [if_pos (by split at*<;> omega)]; rfl) | (rw [if_neg (by split at*<;> omega)]; refine congrArg (Value.int .i64) ?_; split<;>omega)) Ent.drop
 ·have hat:atV t c.tasks (aaY c+c.workers*c.levels*(2+c.deque)) 5≤80000 ∧ -1≤atV t c.tasks (aaY c+c.workers*c.levels*(2+c.deque)) 5:=by unfold atV; split<;>omega
  refine aaD ?_
  refine aad (aag (aaa ?_))
  refine rtn (aac (.tmp aaC)).q ?_
  refine rtn (aac (.tmp (aar abk))).q ?_
  refine rtn (aaM (.tmp aap) (.tmp aaf) (w64 (by omega) (by omega))).q ?_
  refine aa5 (aab (.tmp aaf)).q aae (aaj (aa0 awu) (by kernel_rfl)) ?_
  refine aah (aad (aaz ?_))
  exact aaN rfl (.cons aaf .nil) (by unfold atV at *; unfold abh; first | (rw [if_pos (by split at*<;> omega)]; rfl) | (rw [if_neg (by split at*<;> omega)]; refine congrArg (Value.int .i64) ?_; split<;>omega)) Ent.drop
set_option maxRecDepth 100000 in
theorem anX (c:Cfg) (l:CfgAt) (hn:CNums c) (t:Int) (B:Nat) (W:World) (L:List aak):adV Tryz.prog 33 #[acM c l,.int .i64 t] B W L (.int .i64 (atV t c.tasks (abh c+0) 5)):=by
 refine aay Tryz.func33 rfl (m:=8) rfl (Nat.le_of_ble_eq_true rfl) (R:=[(0,acM c l),(1,.int .i64 t)]) (by kernel_rfl) ?_
 refine aag (aaa ?_)
 refine rtm (abX (.tmp aaf) (us:=(cfL c l)) rfl) ?_
 rintro b1
 refine rtn (aab .const).q ?_
 refine aah (aad ?_)
 refine aag (aaa ?_)
 refine rtn (aaB (o:=0) (i:=0) (k:=11) (us:=(cfL c l)) (.tmp aap) aaf (rfl) (by kernel_rfl) rfl rfl) ?_
 refine rtn (aac (.tmp abk)).q ?_
 refine rtn (aaw (by kernel_rfl) (.cons (.tmp aap) (.cons (.tmp aaf) (.cons .const .nil))) (akn c l hn _ _ (by omega) (by omega) B W _)) ?_
 refine aa5 (aab (.tmp aaf)).q aae (aaj auz (by kernel_rfl)) ?_
 refine aah (aad (aaz ?_))
 exact aaN rfl (.cons aaf .nil) (by rfl) Ent.drop
set_option maxRecDepth 100000 in
theorem an0 (c:Cfg) (l:CfgAt) (hn:CNums c) (t:Int) (B:Nat) (W:World) (L:List aak):adV Tryz.prog 131 #[acM c l,.int .i64 t] B W L (.int .i64 (atV t c.tasks (abh c+1) 5)):=by
 refine aay Tryz.func131 rfl (m:=8) rfl (Nat.le_of_ble_eq_true rfl) (R:=[(0,acM c l),(1,.int .i64 t)]) (by kernel_rfl) ?_
 refine aag (aaa ?_)
 refine rtm (abX (.tmp aaf) (us:=(cfL c l)) rfl) ?_
 rintro b1
 refine rtn (aab .const).q ?_
 refine aah (aad ?_)
 refine aag (aaa ?_)
 refine rtn (aaB (o:=0) (i:=0) (k:=11) (us:=(cfL c l)) (.tmp aap) aaf (rfl) (by kernel_rfl) rfl rfl) ?_
 refine rtn (aac (.tmp abk)).q ?_
 refine rtn (aaw (by kernel_rfl) (.cons (.tmp aap) (.cons (.tmp aaf) (.cons .const .nil))) (akn c l hn _ _ (by omega) (by omega) B W _)) ?_
 refine aa5 (aab (.tmp aaf)).q aae (aaj auz (by kernel_rfl)) ?_
 refine aah (aad (aaz ?_))
 exact aaN rfl (.cons aaf .nil) (by rfl) Ent.drop
set_option maxRecDepth 100000 in
theorem anZ (c:Cfg) (l:CfgAt) (hn:CNums c) (w v:Int) (hw:0≤w∧w<c.workers) (hv:0≤v∧v<c.levels) (B:Nat) (W:World) (L:List aak):adV Tryz.prog 68 #[acM c l,.int .i64 w,.int .i64 v] B W L (.agg #[.int .i64 (acZ c w v),.int .i64 (acZ c w v+1),.int .i64 (acZ c w v+2),.int .i64 c.deque]):=by
 obtain ⟨q1,q2,q3,q4,q5,q6⟩:=asz hn hw hv
 obtain ⟨t1,t2,t3,t4,t5⟩:=afw hn
 have hn0:=hn
 obtain ⟨h1,h2,h3,h4,h5,h6,h7,h8,h9,h10⟩:=hn
 have hdq:8≤aaY c∧aaY c≤200:=by unfold aaY; omega
 refine aay Tryz.func68 rfl (m:=48) rfl (Nat.le_of_ble_eq_true rfl) (R:=[(0,acM c l),(1,.int .i64 w),(2,.int .i64 v)]) (by kernel_rfl) ?_
 refine aag (aaa ?_)
 refine rtm (abX (.tmp aaf) (us:=(cfL c l)) rfl) ?_
 rintro b1
 refine rtm (acd (v:=.agg #[.int .i64 0,.int .i64 0,.int .i64 0,.int .i64 0]) (us:=[.int .i64 0,.int .i64 0,.int .i64 0,.int .i64 0]) (by kernel_rfl) rfl) ?_
 rintro b2
 refine aah (aad ?_)
 refine aag (aag (aaa ?_))
 refine rtn (aac (.tmp aa1)).q ?_
 refine rtn (abE (.tmp aaf) .const).q ?_
 refine rtn (aac (.tmp aaf)).q ?_
 refine abm aaR aaR (fun h3 =>?_) (fun h3 =>?_)
 ·exact absurd h3 (by omega)
 ·refine rts (aac (.tmp adz)).q aaf ?_
  refine rts (aan (k:=0) (o':=0) (.tmp acU) (by kernel_rfl) (by rfl)).q aap ?_
  refine rts (aax (o:=0) (i:=0) (.tmp aaf) aap (rfl) rfl (by kernel_rfl)) aaC ?_
  refine rts (acr (.tmp aaC) (.tmp aaf)).q aa1 ?_
  refine rtn (aat (b:=false) (.tmp abk) (.tmp aaf)).q ?_
  refine rtn (aac (.tmp aaf)).q ?_
  refine abm aaR aaR (fun h4 =>?_) (fun h4 =>?_)
  ·exact absurd h4 (by omega)
  ·refine rts (aac (.tmp ad3)).q aaf ?_
   refine rts (abE (.tmp aaf) .const).q aap ?_
   refine rtn (aat (b:=false) (.tmp aaC) (.tmp aaf)).q ?_
   refine rtn (aac (.tmp aaf)).q ?_
   refine abm aaR aaR (fun h5 =>?_) (fun h5 =>?_)
   ·exact absurd h5 (by omega)
   ·refine rts (aac (.tmp ad9)).q aaf ?_
    refine rts (aan (k:=1) (o':=1) (.tmp adP) (by kernel_rfl) (by rfl)).q aap ?_
    refine rts (aax (o:=0) (i:=1) (.tmp aaf) aap (rfl) rfl (by kernel_rfl)) aaC ?_
    refine rts (acr (.tmp aaC) (.tmp aaf)).q aa1 ?_
    refine rtn (aat (b:=false) (.tmp abk) (.tmp aaf)).q ?_
    refine aah (aad ?_)
    refine abT (.tmp aaf) (fun h6 =>?_) (fun h6 =>?_)
    ·exact absurd h6 (by omega)
    ·refine aaD ?_
     refine aad (aag ?_)
     refine ad4 (by kernel_rfl) (by kernel_rfl) ?_
     refine qtn (aaB (o:=0) (i:=0) (k:=11) (us:=(cfL c l)) (.tmp aev) aap (rfl) (by kernel_rfl) rfl rfl) ?_
     refine qtn (aaw (by kernel_rfl) (.cons (.tmp aaf) .nil) (afR c l (by first | assumption | exact ⟨h1,h2,h3,h4,h5,h6,h7,h8,h9,h10⟩) B W _)) ?_
     refine qtn (aac (.tmp (aar aa1))).q ?_
     refine qtn (aan (k:=1) (o':=1) (.tmp (aar aaC)) (by kernel_rfl) (by rfl)).q ?_
     refine qtn (aax (o:=0) (i:=1) (.tmp aaf) aap (rfl) rfl (by kernel_rfl)) ?_
     refine qtn (ae4 (.tmp aaC) (.tmp aaf) (w64 (by omega) (by omega))).q ?_
     refine qtn (aac (.tmp (aar adK))).q ?_
     refine qtn (aaM (.tmp aap) (.tmp aaf) (w64 (by omega) (by omega))).q ?_
     refine qtn (aan (k:=4) (o':=4) (.tmp (aar aeX)) (by kernel_rfl) (by rfl)).q ?_
     refine qtn (aax (o:=0) (i:=4) (.tmp aaf) aap (rfl) rfl (by kernel_rfl)) ?_
     refine qtn (aaM .const (.tmp aaf) (w64 (by omega) (by omega))).q ?_
     refine qtn (ae4 (.tmp aa1) (.tmp aaf) (w64 (by omega) (by omega))).q ?_
     refine qtn (aaM (.tmp acP) (.tmp aaf) (w64 (by omega) (by omega))).q ?_
     refine qtn (aab (.tmp aaf)).q ?_
     refine adI (aad ?_)
     refine aag (aaa ?_)
     refine rtn (aac (.tmp aaf)).q ?_
     refine rtn (aac (.tmp aap)).q ?_
     refine rtn (aaM (.tmp aaf) .const (w64 (by omega) (by omega))).q ?_
     refine rtn (aac (.tmp aa1)).q ?_
     refine rtn (aaM (.tmp aaf) .const (w64 (by omega) (by omega))).q ?_
     refine rtn (aan (k:=4) (o':=4) (.tmp (aar aeP)) (by kernel_rfl) (by rfl)).q ?_
     refine rtn (aax (o:=0) (i:=4) (.tmp aaf) aap (rfl) rfl (by kernel_rfl)) ?_
     refine rtn (aeE (v:=.agg #[.int .i64 (((aaY c)+(((w*c.levels)+v)*(2+c.deque)))),.int .i64 ((((aaY c)+(((w*c.levels)+v)*(2+c.deque)))+1)),.int .i64 ((((aaY c)+(((w*c.levels)+v)*(2+c.deque)))+2)),.int .i64 c.deque]) (.cons (.tmp adz) (.cons (.tmp abk) (.cons (.tmp aaC) (.cons (.tmp aaf) .nil)))) (fun _ =>by kernel_rfl)).q ?_
     refine ahi (abg (o:=0) (i:=0) (k:=4) (us:=[.int .i64 (((aaY c)+(((w*c.levels)+v)*(2+c.deque)))),.int .i64 ((((aaY c)+(((w*c.levels)+v)*(2+c.deque)))+1)),.int .i64 ((((aaY c)+(((w*c.levels)+v)*(2+c.deque)))+2)),.int .i64 c.deque]) (ws:=[.int .i64 (((aaY c)+(((w*c.levels)+v)*(2+c.deque)))),.int .i64 ((((aaY c)+(((w*c.levels)+v)*(2+c.deque)))+1)),.int .i64 ((((aaY c)+(((w*c.levels)+v)*(2+c.deque)))+2)),.int .i64 c.deque]) (.tmp (aar (aar aaf))) (.tmp aaf) aaR (rfl) (by kernel_rfl) rfl (by decide) rfl rfl (by simp) rfl) aae (fun _ =>aa3) (fun _ =>?_)
     refine aah (aad (aaz ?_))
     exact aaN rfl (.cellA (m:=4) (ws:=[.int .i64 (((aaY c)+(((w*c.levels)+v)*(2+c.deque)))),.int .i64 ((((aaY c)+(((w*c.levels)+v)*(2+c.deque)))+1)),.int .i64 ((((aaY c)+(((w*c.levels)+v)*(2+c.deque)))+2)),.int .i64 c.deque]) (aar (aar aaf)) aaf (by kernel_rfl) rfl rfl .nil) (by rfl) (Ent.drop.trans Ent.drop)
end
end Go.Proofs.YtjjbdbbmdhncjaaGreat
