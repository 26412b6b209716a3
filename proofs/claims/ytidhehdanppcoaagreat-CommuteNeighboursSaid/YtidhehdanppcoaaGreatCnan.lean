/- The program's environment made anew,at a valid configuration. What is decoded is valid,also with other numbers of tasks and places. An engine: what holds between the entries of a script. The cells of an engine's memory by kinds: what each may hold; what the places of the layout are. What a step leaves alone: levels and Next; the machines that run none inside. The keys of the injector: what their low bits are. Raises; the machines that run others inside,up to Drain. Run,a worker,the client: what a step does with levels,Next and the events; who publishes a task. A worker and the client: what a step does with levels,Next and the events. -/
import Derived.Test.YtidhehdanppcoaaGreatCnak
import Derived.Test.YtidhehdanppcoaaGreatCnam
set_option linter.all false
namespace Go.Proofs.YtidhehdanppcoaaGreat
section
open Go Go.RowKit
set_option maxRecDepth 100000
variable [Tb]
theorem atm {α β:Type} (a:α) (f:α→Option β):(some a).bind f=f a:=rfl
structure LenOk (c:Cfg):Prop where
 ps:c.progs.length≤1000000
 pl:∀ p∈c.progs,p.length≤1000000
 ss:c.subs.length≤1000000
theorem au7 {lv np:Int}:∀ {ps:List (List Ins)},abT lv np ps=0→∀ p∈ps,p.length≤32
 | [],_,p,h =>by cases h
 | q::ps,h,p,hm =>by
  unfold abT at h
  split at h
  ·omega
  ·split at h
   ·rcases List.mem_cons.1 hm with e | e
    ·subst e; omega
    ·exact au7 h p e
   ·omega
theorem amp {c:Cfg} (h:agQ c=0):alJ c=true∧c.progs.length≤32∧(∀ p∈c.progs,p.length≤32)∧c.subs.length≤64:=by
 unfold agQ at h
 split at h
 ·omega
 ·rename_i hn
  split at h
  ·omega
  ·rename_i hp
   have hp0:aeu c=0:=by omega
   unfold aeu at hp0
   split at hp0
   ·omega
   ·rename_i hl
    simp only [inB,Bool.not_eq_true',Bool.and_eq_false_iff,decide_eq_false_iff_not,not_or,Classical.not_not,Bool.not_eq_false,Bool.and_eq_true,decide_eq_true_eq] at hl
    refine ⟨by simpa using hn,by omega,au7 hp0,?_⟩
    unfold air at h
    split at h
    ·omega
    ·omega
theorem LenOk.of {c:Cfg} (h:agQ c=0):LenOk c:=by
 obtain ⟨_,h1,h2,h3⟩:=amp h
 exact ⟨by omega,fun p hp =>by have:=h2 p hp; omega,by omega⟩
abbrev ClS:=Int×Int×Int×Int×Int×Int×Int×Int×Int×List (List Ins)×List Sub×Unit
def clS (c:Cfg):ClS:=(c.workers,c.levels,c.classes,c.tasks,c.deque,c.heap,c.batch,c.age,c.patience,c.progs,c.subs,())
theorem auN {α:Type} {xs:List α} {i:Nat} {x:α} (h:xs[i]?=some x):xs.set i x=xs:=by
 obtain ⟨hlt,rfl⟩:=List.getElem?_eq_some_iff.1 h
 simp
theorem at1 {c:Cfg} (h:LenOk c):afq c=some ((c,()),()):=by
 have hg:aan (afq c) fun o =>o.1.1=c:=by
  unfold afq
  have e0:ai7 c.progs=some ((c.progs,()),()):=by unfold ai7; rw [if_pos h.ps]
  rw [e0,atm]
  refine aan.bind (P:=fun z =>z.2.1=clS c) (abK (fun x =>x.2.1=clS c∧0≤x.1∧x.1≤(c.progs.length:Int)) (fun x =>((c.progs.length:Int)-x.1).toNat) (fun self x ⟨q0,q1,q2⟩ ih =>?_) _ _ ⟨rfl,Int.le_refl 0,by show (0:Int)≤_; omega⟩ (by show ((c.progs.length:Int)-0).toNat<_; have:=h.ps; omega)) fun z hz =>?_
  rotate_left
  ·obtain ⟨i,s,u⟩:=x
   simp only at q0 q1 q2
   subst q0
   refine aan.ite (fun hlt =>?_) fun _ =>.some_ rfl
   have hin:0≤i∧i<((c.progs.length:Nat):Int):=⟨q1,hlt⟩
   refine aan.guard (show 0≤i∧i<(((clS c).2.2.2.2.2.2.2.2.2.1.length:Nat):Int) from hin) fun _ =>?_
   have hm:=h.pl _ (auf (d:=(dfR 18:List Ins)) hin)
   have e1:alk (aCI (clS c).2.2.2.2.2.2.2.2.2.1 i)=some ((aCI c.progs i,()),()):=by
    unfold alk; exact if_pos hm
   rw [e1,atm]
   refine aan.guard (show 0≤i∧i<(((clS c).2.2.2.2.2.2.2.2.2.1.length:Nat):Int) from hin) fun _ =>?_
   have e2:wi (i+1)=i+1:=aaK (aao (by have:=h.ps; omega))
   have e3:c.progs.set i.toNat (aCI c.progs i)=c.progs:=auN (adL hin)
   rw [e2]
   refine ih _ ⟨?_,by show 0≤i+1; omega,by show i+1≤_; omega⟩ (by show ((c.progs.length:Int)-(i+1)).toNat<((c.progs.length:Int)-i).toNat; omega)
   show (c.workers,c.levels,c.classes,c.tasks,c.deque,c.heap,c.batch,c.age,c.patience,c.progs.set i.toNat (aCI c.progs i),c.subs,())=clS c
   rw [e3]; rfl
  ·rw [hz]
   have e4:ai6 (clS c).2.2.2.2.2.2.2.2.2.2.1=some ((c.subs,()),()):=by unfold ai6; exact if_pos h.ss
   rw [e4,atm]
   exact .some_ rfl
 obtain ⟨o,e,ho⟩:=hg
 rw [e]
 obtain ⟨⟨o1,⟨⟩⟩,⟨⟩⟩:=o
 simp only at ho
 rw [ho]
def aau (c:Cfg):LayV:={ workers:=c.workers,levels:=c.levels,classes:=c.classes,tasks:=c.tasks,deque:=c.deque,heap:=c.heap,sleepers:=4+c.heap,epochs:=4+c.heap+c.classes,bitmaps:=4+c.heap+c.classes+c.workers,queues:=4+c.heap+c.classes+c.workers+c.workers,table:=4+c.heap+c.classes+c.workers+c.workers+c.workers*c.levels*(2+c.deque) }
def aaX (c:Cfg):Int:=(aau c).table+5*c.tasks
theorem aEs {a b A B:Int} (ha:0≤a) (hA:a≤A) (hb:0≤b) (hB:b≤B):0≤a*b∧a*b≤A*B :=
 ⟨Int.mul_nonneg ha hb,Int.le_trans (Int.mul_le_mul_of_nonneg_right hA hb) (Int.mul_le_mul_of_nonneg_left hB (Int.le_trans ha hA))⟩
theorem asM {c:Cfg} (h:alJ c=true):(0≤c.workers*c.levels∧c.workers*c.levels≤1024)∧(0≤c.workers*c.levels*(2+c.deque)∧c.workers*c.levels*(2+c.deque)≤67584):=by
 have hs:=ajp h
 have h1:=aEs (a:=c.workers) (b:=c.levels) (A:=16) (B:=64) (by omega) (by omega) (by omega) (by omega)
 have h2:=aEs (a:=c.workers*c.levels) (b:=2+c.deque) (A:=1024) (B:=66) h1.1 (by omega) (by omega) (by omega)
 omega
theorem aBA {c:Cfg} (h:agQ c=0):ang c=some ((aau c,0,()),()):=by
 have hn:=(amp h).1
 have hs:=ajp hn
 have ht:=asM hn
 unfold ang at9
 rw [atm]
 have e0:¬ agQ c≠0:=by omega
 simp only [if_neg e0]
 have e1:wi (4+c.heap)=4+c.heap:=aaK (aao (by omega))
 have e2:wi (4+c.heap+c.classes)=4+c.heap+c.classes:=aaK (aao (by omega))
 have e3:wi (4+c.heap+c.classes+c.workers)=4+c.heap+c.classes+c.workers:=aaK (aao (by omega))
 have e4:wi (4+c.heap+c.classes+c.workers+c.workers)=4+c.heap+c.classes+c.workers+c.workers:=aaK (aao (by omega))
 have e5:wi (c.workers*c.levels)=c.workers*c.levels:=aaK (aao (by omega))
 have e6:wi (2+c.deque)=2+c.deque:=aaK (aao (by omega))
 have e7:wi (c.workers*c.levels*(2+c.deque))=c.workers*c.levels*(2+c.deque):=aaK (aao (by omega))
 have e8:wi (4+c.heap+c.classes+c.workers+c.workers+c.workers*c.levels*(2+c.deque))=4+c.heap+c.classes+c.workers+c.workers+c.workers*c.levels*(2+c.deque):=aaK (aao (by omega))
 simp only [e1,e2,e3,e4,e5,e6,e7,e8]
 rfl
def azV:RecP:=⟨0,-1,0,0,-1,[],false⟩
def aor (c:Cfg):EnvP:=⟨c,aau c,⟨List.replicate (aaX c).toNat 0,⟨0,0,0,0⟩,0⟩,⟨0,0⟩,List.replicate c.tasks.toNat azV,[]⟩
theorem aoY {c:Cfg} (h:agQ c=0):adp c=some ((aor c,0,()),()):=by
 have hn:=(amp h).1
 have hs:=ajp hn
 have ht:=asM hn
 have hg:aan (adp c) fun o =>o.1.1=aor c∧o.1.2.1=0:=by
  unfold adp
  rw [aBA h,atm]
  refine aan.ite (fun e =>absurd rfl e) fun _ =>?_
  have c1:wi (5*c.tasks)=5*c.tasks:=aaK (aao (by omega))
  have c2:wi ((aau c).table+5*c.tasks)=aaX c:=aaK (aao (by unfold aau; simp only; omega))
  have e1:ayr (aau c)=some ((aaX c,()),()):=by
   unfold ayr
   have:wi (5*(aau c).tasks)=5*c.tasks:=c1
   rw [this,c2]
  rw [e1,atm]
  have hc:0≤aaX c∧aaX c≤131072:=by unfold aaX aau; simp only; omega
  have e2:ajq (aaX c)=some ((⟨⟨0,0,0,0,0,0,0,0,0,[],[]⟩,⟨0,0,0,0,0,0,0,0,0,0,0⟩,⟨List.replicate (aaX c).toNat 0,⟨0,0,0,0⟩,0⟩,⟨0,0⟩,[],[]⟩,()),()):=by
   unfold ajq aqV at7
   have i1:(if aaX c<0 then (0:Int) else aaX c)=aaX c:=if_neg (by omega)
   have i2:(if 131072<aaX c then (131072:Int) else aaX c)=aaX c:=if_neg (by omega)
   have i3:0≤aaX c∧aaX c≤1099511627776:=by omega
   simp only [i1,i2,if_true,if_pos i3,atm]
  rw [e2,atm,at1 (.of h),atm]
  simp only [if_true]
  refine aan.bind (P:=fun z =>z.2.1=aor c) (abK (fun x =>0≤x.1∧x.1≤c.tasks∧x.2.1={ aor c with recs:=List.replicate x.1.toNat azV }) (fun x =>(c.tasks-x.1).toNat) (fun self x ⟨q0,q1,q2⟩ ih =>?_) _ _ ⟨Int.le_refl 0,by show (0:Int)≤_; omega,rfl⟩ (by show (c.tasks-0).toNat<_; omega)) fun z hz =>.some_ ⟨hz,rfl⟩
  obtain ⟨i,e,u⟩:=x
  simp only at q0 q1 q2
  subst q2
  refine aan.ite (fun hlt =>?_) fun hge =>.some_ ?_
  ·have hl:(List.replicate i.toNat azV).length=i.toNat:=List.length_replicate
   refine aan.guard ?_ fun _ =>?_
   ·show (((List.replicate i.toNat azV).length+1:Nat):Int)<100000000000
    rw [hl]
    have hlt':i<c.tasks:=hlt
    omega
   ·have hlt':i<c.tasks:=hlt
    have e2:wi (i+1)=i+1:=aaK (aao (by omega))
    rw [e2]
    refine ih _ ⟨by show 0≤i+1; omega,by show i+1≤_; omega,?_⟩ (by show (c.tasks-(i+1)).toNat<(c.tasks-i).toNat; omega)
    show ({ aor c with recs:=List.replicate i.toNat azV++[azV] }:EnvP)={ aor c with recs:=List.replicate (i+1).toNat azV }
    have e3:(i+1).toNat=i.toNat+1:=by omega
    rw [e3,List.replicate_succ']
  ·show ({ aor c with recs:=List.replicate i.toNat azV }:EnvP)=aor c
   have:i=c.tasks:=by have hge':¬ i<c.tasks:=hge; omega
   rw [this]; rfl
 obtain ⟨o,e,ho1,ho2⟩:=hg
 rw [e]
 obtain ⟨⟨o1,o2,⟨⟩⟩,⟨⟩⟩:=o
 simp only at ho1 ho2
 rw [ho1,ho2]
end
section
open Go
variable [Tb]
theorem aDd {c:Cfg} (h:DecOk c) {t hp':Int} (ht:1≤t∧t≤12) (hh:1≤hp'∧hp'≤8):agQ { c with tasks:=t,heap:=hp' }=0:=by
 have hp:∀ ps:List (List Ins),(∀ x∈ps,x∈c.progs)→abT c.levels c.progs.length ps=0:=fun ps =>by
  induction ps with
  | nil =>intro _; rfl
  | cons p ps ih =>
   intro hm
   have h1:=h.pl p (hm p (List.mem_cons_self ..))
   unfold abT
   rw [if_neg (by omega),if_pos]
   ·exact ih fun x hx =>hm x (List.mem_cons_of_mem _ hx)
   ·refine List.all_eq_true.2 fun i hi =>?_
    have h2:=h.ps p (hm p (List.mem_cons_self ..)) i hi
    unfold arR
    rcases h2 with ⟨a,b,d,e⟩ | ⟨a,b,d,e,f⟩ | ⟨a,b,d,e⟩
    ·rw [if_pos a]; simp only [inB,e,Bool.and_eq_true,decide_eq_true_eq,beq_self_eq_true,and_true]; omega
    ·rw [if_neg (by omega),if_pos a]; simp only [inB,Bool.and_eq_true,decide_eq_true_eq]; omega
    ·rw [if_neg (by omega),if_neg (by omega),if_pos a]; simp only [inB,e,Bool.and_eq_true,decide_eq_true_eq,beq_self_eq_true,and_true]; omega
 have hs:∀ ss:List Sub,(∀ x∈ss,x∈c.subs)→aeo c.levels c.progs.length ss=0:=fun ss =>by
  induction ss with
  | nil =>intro _; rfl
  | cons s ss ih =>
   intro hm
   have h1:=h.ss s (hm s (List.mem_cons_self ..))
   have e:aqm c.levels c.progs.length s=0:=by
    unfold aqm
    have e1:inB s.prog 0 ((c.progs.length:Int)-1)=true:=by simp only [inB,Bool.and_eq_true,decide_eq_true_eq]; omega
    have e2:inB s.level 0 (c.levels-1)=true:=by simp only [inB,Bool.and_eq_true,decide_eq_true_eq]; omega
    have e3:inB s.deadline 0 16777215=true:=by simp only [inB,Bool.and_eq_true,decide_eq_true_eq]; omega
    rw [e1,e2,e3]; rfl
   unfold aeo
   rw [if_pos e]
   exact ih fun x hx =>hm x (List.mem_cons_of_mem _ hx)
 have hn:alJ { c with tasks:=t,heap:=hp' }=true:=by
  have:=h.w; have:=h.l; have:=h.k; have:=h.t; have:=h.q; have:=h.h; have:=h.b; have:=h.a; have:=h.p
  simp only [alJ,inB,Bool.and_eq_true,decide_eq_true_eq]
  have e:(if c.levels<8 then c.levels else 8)=c.levels:=if_pos (by omega)
  rw [e]
  omega
 have hpa:aeu { c with tasks:=t,heap:=hp' }=0:=by
  have:=h.pn
  unfold aeu
  have e:inB (c.progs.length:Int) 1 32=true:=by simp only [inB,Bool.and_eq_true,decide_eq_true_eq]; omega
  rw [e]
  exact hp c.progs fun _ hx =>hx
 have hsa:air { c with tasks:=t,heap:=hp' }=0:=by
  have:=h.sn
  unfold air
  rw [if_neg (show ¬ 64<c.subs.length by omega)]
  exact hs c.subs fun _ hx =>hx
 unfold agQ
 rw [hn,hpa]
 exact hsa
theorem adD {c:Cfg} (h:DecOk c):agQ c=0:=by
 have:=h.h
 exact aDd h (t:=c.tasks) (hp':=c.heap) h.t (by omega)
theorem axk {b:List Int} (hb:∀ x∈b,0≤x∧x≤255) (hl:b.length≤1000000):aan (agX b) fun o =>DecOk o.1.1:=by
 have:=axh hb hl
 unfold agX
 refine this.bind fun o ho =>.some_ ?_
 exact ho
end
section
open Go Go.RowKit
set_option maxRecDepth 100000
variable [Tb]
theorem aeN (m:MemV):aaD m=some ((m.count,()),(m,())):=id rfl
theorem aHR (m:MemV):agV m=some ((m.last,()),(m,())):=id rfl
theorem aua (m:MemV) (h:m.cells.length≤1000000):ac2 m=some ((m.cells,()),(m,())):=by
 unfold ac2 anx
 rw [if_pos h]
 rfl
structure EI (c:Cfg) (K:Nat) (e:EnvP):Prop where
 ok:EOk K e
 l:e.l=aau c
 c:e.c=c
 ct:0≤e.m.count∧e.m.count≤K
 cl:e.m.cells.length≤1000000
def mnC (c:Cfg):Int:=if 16<c.workers then 16 else c.workers
def WI (c:Cfg) (K:Nat) (j:Int) (w:WorkerV MV):Prop:=∃ k,w=ah0 (aau c) j k∧ahZ K (mnC c) k
section
variable {c:Cfg} {K:Nat} {e:EnvP} {j:Int} {w:WorkerV MV} {l:ClientV MV}
theorem EI.many (h:EI c K e):abJ e=mnC c:=by unfold abJ mnC; rw [h.c]
theorem aFL {m m':MemV} (h:One m m') {K:Nat} (hc:0≤m.count∧m.count≤K) (hK:K≤1000000):(0≤m'.count∧m'.count≤((K+3:Nat):Int))∧m'.cells.length=m.cells.length:=by
 cases h with
 | no =>exact ⟨by omega,rfl⟩
 | yes k a v h hk =>
  refine ⟨?_,by simp⟩
  show 0≤wi (m.count+1)∧wi (m.count+1)≤_
  rw [aaK (aao (by omega))]
  omega
theorem EI.stp (h:EI c K e) (hK:K≤1000000) {e':EnvP} (s:Stp 2 e e'):EI c (K+3) e' :=
 have h1:=aFL s.m h.ct hK
 ⟨h.ok.step s,by rw [s.l]; exact h.l,by rw [s.c]; exact h.c,h1.1,by rw [h1.2]; exact h.cl⟩
theorem ahZ.up {K L:Nat} (h:K≤L) {n:Int} {k:WorkS} (hw:ahZ K n k):ahZ L n k:=by
 obtain ⟨a,b,d,f,g⟩:=k
 cases g with
 | t7 s =>exact ⟨hw.1,Nat.le_trans hw.2 h⟩
 | t3 s =>exact hw
 | t4 s =>exact hw
 | _ =>trivial
theorem WI.up {K L:Nat} (h:K≤L) (hw:WI c K j w):WI c L j w:=by
 obtain ⟨k,h1,h2⟩:=hw
 exact ⟨k,h1,h2.up h⟩
theorem EI.up {L:Nat} (h:K≤L) (he:EI c K e):EI c L e:=⟨⟨he.ok.dq,he.ok.tk,he.ok.ct,he.ok.wk,by have:=he.ok.ev; omega,fun r hr =>by have:=he.ok.kd r hr; omega⟩,he.l,he.c,by have:=he.ct; omega,he.cl⟩
theorem EI.clk {k:ClkV} (he:EI c K e):EI c K { e with k:=k }:=⟨⟨he.ok.dq,he.ok.tk,he.ok.ct,he.ok.wk,he.ok.ev,he.ok.kd⟩,he.l,he.c,he.ct,he.cl⟩
theorem am6 {x:EntV} {n:Int} (hn:1≤n∧n≤1000) (h:x.kind=0):aan (acV x n) fun o =>0≤o.1.1∧o.1.1<n:=by
 have h1:Int.tmod x.value n<n ∧ -n<Int.tmod x.value n:=by
  constructor
  ·exact Int.tmod_lt_of_pos _ (by omega)
  ·have h2:Int.tmod (-x.value) n<n:=Int.tmod_lt_of_pos _ (by omega)
   rw [Int.neg_tmod] at h2
   omega
 unfold acV
 rw [if_neg (fun h' =>h' h),if_neg (by omega),if_pos (by omega)]
 refine aan.ite (fun hl =>?_) fun hl =>.some_ ⟨by show 0≤Int.tmod x.value n; omega,h1.1⟩
 rw [aaK (aao (by omega))]
 exact .some_ ⟨by show 0≤Int.tmod x.value n+n; omega,by show Int.tmod x.value n+n<n; omega⟩
end
theorem aKF {c:Cfg} (h:DecOk c):EI c 1 (aor c):=by
 have hn:=(amp (adD h)).1
 have ht:=asM hn
 have h1:=h.w
 have h2:=h.l
 have h3:=h.k
 have h4:=h.t
 have h5:=h.q
 have h6:=h.h
 refine ⟨⟨?_,?_,?_,?_,Nat.zero_le _,fun r hr =>?_⟩,rfl,rfl,⟨Int.le_refl 0,by show (0:Int)≤1; omega⟩,?_⟩
 ·show 0≤c.deque∧c.deque≤65535; omega
 ·show c.tasks=((List.replicate c.tasks.toNat azV).length:Int)
  rw [List.length_replicate]; omega
 ·show c.tasks=((List.replicate c.tasks.toNat azV).length:Int)
  rw [List.length_replicate]; omega
 ·show 1≤c.workers; omega
 ·have:=List.eq_of_mem_replicate hr
  rw [this]
  exact Nat.zero_le _
 ·show (List.replicate (aaX c).toNat 0).length≤_
  rw [List.length_replicate]
  unfold aaX aau
  simp only
  omega
theorem ao8 {c:Cfg} (h:DecOk c):aeJ c=some ((arw c.subs c.workers ⟨0,0,false,.n1⟩,()),()):=by
 unfold aeJ
 rw [at1 (.of (adD h)),bnd,if_pos rfl]
theorem afu {l:LayV} {j:Int}:abv j=some ((ah0 l j ⟨0,0,0,0,.top⟩,()),()):=rfl
theorem agv {x:Int} (h:0≤x∧x≤1000000000000):wu x=x:=by
 show IntKind.u64.wrap x=x
 simp [IntKind.wrap,IntKind.signed,IntKind.bits,IntKind.min,IntKind.max]
 omega
def ckC (c:Cfg) (a:Int):Int :=
 if a<0 then 9 else if a=0 then 0 else if a<4 then 1 else if a<4+c.heap then 2 else if a<(aau c).queues then 3
 else if a<(aau c).table then (if (a-(aau c).queues) % (2+c.deque)<2 then 4 else 5)
 else if (a-(aau c).table) % 5=1 then 6 else 7
structure CellOk (c:Cfg) (a x:Int):Prop where
 p:0≤x
 s:ckC c a=2→aoG x 65535<c.tasks
 r:ckC c a=5→x<c.tasks
 l:ckC c a=6→x<c.levels
def Fr (c:Cfg) (a:Int):Prop:=ckC c a≠0∧ckC c a≠2∧ckC c a≠5∧ckC c a≠6
theorem Fr.ok {c:Cfg} {a x:Int} (h:Fr c a) (hx:0≤x):CellOk c a x:=⟨hx,fun k =>absurd k h.2.1,fun k =>absurd k h.2.2.1,fun k =>absurd k h.2.2.2⟩
theorem arT {c:Cfg} {a k:Int} (h:ckC c a=k) (hk:k=1∨k=3∨k=4∨k=7∨k=9):Fr c a:=by
 unfold Fr; rw [h]; omega
section
variable {c:Cfg}
theorem DecOk.rg (h:DecOk c):(0≤c.workers*c.levels∧c.workers*c.levels≤16)∧(0≤c.workers*c.levels*(2+c.deque)∧c.workers*c.levels*(2+c.deque)≤96):=by
 have h1:=h.w
 have h2:=h.l
 have h3:=h.q
 have e1:=aEs (a:=c.workers) (b:=c.levels) (A:=4) (B:=4) (by omega) (by omega) (by omega) (by omega)
 have e2:=aEs (a:=c.workers*c.levels) (b:=2+c.deque) (A:=16) (B:=6) e1.1 (by omega) (by omega) (by omega)
 omega
theorem ag3:ckC c (-1)=9:=by unfold ckC; rw [if_pos (by omega)]
theorem ah5 (h:DecOk c):4+c.heap≤(aau c).queues∧(aau c).queues≤(aau c).table∧(aau c).table≤200∧(aau c).table=(aau c).queues+c.workers*c.levels*(2+c.deque):=by
 have h1:=h.w
 have h2:=h.l
 have h3:=h.q
 have h4:=h.h
 have h5:=h.k
 have e:=h.rg
 refine ⟨?_,?_,?_,?_⟩<;>show _<;>unfold aau<;>simp only<;>omega
theorem ay4 (h:DecOk c) {a:Int} (ha:1≤a∧a≤3):ckC c a=1:=by
 unfold ckC; rw [if_neg (by omega),if_neg (by omega),if_pos (by omega)]
theorem aCg (h:DecOk c) {t f:Int} (ht:0≤t) (hf:0≤f∧f<5):ckC c ((aau c).table+f+t*5)=if f=1 then 6 else 7:=by
 have e:=ah5 h
 have h4:=h.h
 unfold ckC
 rw [if_neg (by omega),if_neg (by omega),if_neg (by omega),if_neg (by omega),if_neg (by omega),if_neg (by omega)]
 by_cases hf1:f=1
 ·rw [if_pos (by omega),if_pos hf1]
 ·rw [if_neg (by omega),if_neg hf1]
theorem aeq (h:DecOk c) {t f:Int} (hf:0≤f∧f<5):adx (aau c) t f=if 0≤t∧t<c.tasks then (aau c).table+f+t*5 else -1:=by
 have e:=ah5 h
 have h4:=h.t
 have h5:=h.h
 have h6:=h.rg
 unfold adx atP
 have e1:(aau c).tasks=c.tasks:=rfl
 rw [e1]
 by_cases h1:t<0
 ·rw [if_pos h1,if_neg (by omega)]
 rw [if_neg h1]
 by_cases h2:c.tasks≤t
 ·rw [if_pos h2,if_neg (by omega)]
 rw [if_neg h2,if_pos (by omega),aaK (x:=(aau c).table+f) (aao (by omega)),aaK (x:=t*5) (aao (by omega)),aaK (aao (by omega))]
theorem atZ (h:DecOk c) {t f:Int} (hf:0≤f∧f<5):ckC c (adx (aau c) t f)=if 0≤t∧t<c.tasks then (if f=1 then 6 else 7) else 9:=by
 rw [aeq h hf]
 split
 ·rename_i h1; rw [aCg h h1.1 hf]
 ·rw [ag3]
theorem atI (h:DecOk c) {t f:Int} (hf:0≤f∧f<5) (hf1:f≠1):Fr c (adx (aau c) t f):=by
 refine arT rfl ?_
 rw [atZ h hf,if_neg hf1]
 split<;>omega
theorem ahm (h:DecOk c) {t:Int}:Fr c (aaP (aau c) t):=atI h (by omega) (by omega)
theorem atJ (h:DecOk c) {t:Int}:Fr c (ac4 (aau c) t):=atI h (by omega) (by omega)
theorem atH (h:DecOk c) {t:Int}:Fr c (aeS (aau c) t):=atI h (by omega) (by omega)
theorem ap0 (h:DecOk c) {t:Int}:Fr c (amz (aau c) t):=atI h (by omega) (by omega)
theorem arh (h:DecOk c) {a:Int} (ha:1≤a∧a≤3):Fr c a:=arT (ay4 h ha) (by omega)
theorem aLs {i n a w:Int} (hn:n≤1000) (ha:0≤a∧a≤1000) (hw:w=1):atP i n a w=if 0≤i∧i<n then a+i else -1:=by
 subst hw
 unfold atP
 by_cases h1:i<0
 ·rw [if_pos h1,if_neg (by omega)]
 rw [if_neg h1]
 by_cases h2:n≤i
 ·rw [if_pos h2,if_neg (by omega)]
 rw [if_neg h2,if_pos (by omega),Int.mul_one,aaK (x:=i) (aao (by omega)),aaK (aao (by omega))]
theorem art (h:DecOk c) {a:Int} (ha:4+c.heap≤a∧a<(aau c).queues):ckC c a=3:=by
 have h4:=h.h
 unfold ckC
 rw [if_neg (by omega),if_neg (by omega),if_neg (by omega),if_neg (by omega),if_pos (by omega)]
theorem aqB:(aau c).queues=4+c.heap+c.classes+c.workers+c.workers:=rfl
theorem azb (h:DecOk c) {w:Int}:ckC c (agK (aau c) w)=3∨ckC c (agK (aau c) w)=9:=by
 have h1:=h.w
 have h4:=h.h
 have h5:=h.k
 unfold agK
 show ckC c (atP w c.workers (4+c.heap+c.classes) 1)=3∨ckC c (atP w c.workers (4+c.heap+c.classes) 1)=9
 rw [aLs (show c.workers≤1000 by omega) (show 0≤4+c.heap+c.classes∧4+c.heap+c.classes≤1000 by omega) rfl]
 split
 ·rename_i h'
  have h':0≤w∧w<c.workers:=h'
  refine .inl (art h ?_)
  show 4+c.heap≤4+c.heap+c.classes+w∧4+c.heap+c.classes+w<_
  rw [aqB]; omega
 ·exact .inr ag3
theorem aEG (h:DecOk c) {w:Int}:Fr c (agK (aau c) w):=arT rfl (by have:=azb h (w:=w); omega)
theorem avX (h:DecOk c) {w:Int}:ckC c (aaI (aau c) w)=3∨ckC c (aaI (aau c) w)=9:=by
 have h1:=h.w
 have h4:=h.h
 have h5:=h.k
 unfold aaI
 show ckC c (atP w c.workers (4+c.heap+c.classes+c.workers) 1)=3∨ckC c (atP w c.workers (4+c.heap+c.classes+c.workers) 1)=9
 rw [aLs (show c.workers≤1000 by omega) (show 0≤4+c.heap+c.classes+c.workers∧4+c.heap+c.classes+c.workers≤1000 by omega) rfl]
 split
 ·rename_i h'
  have h':0≤w∧w<c.workers:=h'
  refine .inl (art h ?_)
  show 4+c.heap≤4+c.heap+c.classes+c.workers+w∧4+c.heap+c.classes+c.workers+w<_
  rw [aqB]; omega
 ·exact .inr ag3
theorem ari (h:DecOk c) {w:Int}:Fr c (aaI (aau c) w):=arT rfl (by have:=avX h (w:=w); omega)
theorem arA (h:DecOk c) {w:Int}:ckC c (aiH (aau c) w)=3∨ckC c (aiH (aau c) w)=9:=by
 have h1:=h.w
 have h4:=h.h
 have h5:=h.k
 unfold aiH
 show ckC c (atP w c.classes (4+c.heap) 1)=3∨ckC c (atP w c.classes (4+c.heap) 1)=9
 rw [aLs (show c.classes≤1000 by omega) (show 0≤4+c.heap∧4+c.heap≤1000 by omega) rfl]
 split
 ·rename_i h'
  have h':0≤w∧w<c.classes:=h'
  refine .inl (art h ?_)
  show 4+c.heap≤4+c.heap+w∧4+c.heap+w<_
  rw [aqB]; omega
 ·exact .inr ag3
theorem ap4 (h:DecOk c) {i:Int}:ckC c (afL (aau c) i)=2∨ckC c (afL (aau c) i)=9:=by
 have h4:=h.h
 unfold afL
 show ckC c (atP i c.heap 4 1)=2∨ckC c (atP i c.heap 4 1)=9
 rw [aLs (show c.heap≤1000 by omega) (show (0:Int)≤4∧(4:Int)≤1000 by omega) rfl]
 split
 ·rename_i h'
  have h':0≤i∧i<c.heap:=h'
  refine .inl ?_
  unfold ckC
  rw [if_neg (by omega),if_neg (by omega),if_neg (by omega),if_pos (by omega)]
 ·exact .inr ag3
theorem aHw (h:DecOk c) {i x:Int} (h1:0≤x) (h2:aoG x 65535<c.tasks):CellOk c (afL (aau c) i) x:=by
 have e:=ap4 h (i:=i)
 exact ⟨h1,fun _ =>h2,fun k =>by omega,fun k =>by omega⟩
def bq (c:Cfg) (k:Int):QV:=⟨(aau c).queues+k*(2+c.deque),(aau c).queues+k*(2+c.deque)+1,(aau c).queues+k*(2+c.deque)+2,c.deque⟩
theorem aMA {i n a w:Int} (hn:n≤10) (ha:0≤a∧a≤1000) (hw:0≤w∧w≤100):atP i n a w=if 0≤i∧i<n then a+i*w else -1:=by
 unfold atP
 by_cases h1:i<0
 ·rw [if_pos h1,if_neg (by omega)]
 rw [if_neg h1]
 by_cases h2:n≤i
 ·rw [if_pos h2,if_neg (by omega)]
 have h3:=aEs (a:=i) (b:=w) (A:=10) (B:=100) (by omega) (by omega) (by omega) (by omega)
 rw [if_neg h2,if_pos (by omega),aaK (x:=i*w) (aao (by omega)),aaK (aao (by omega))]
theorem aAT (h:DecOk c) (w v:Int):(¬ ((0≤w∧w<c.workers)∧0≤v∧v<c.levels)∧aav (aau c) w v=⟨-1,-1,-1,0⟩)∨(((0≤w∧w<c.workers)∧0≤v∧v<c.levels)∧(0≤w*c.levels+v∧w*c.levels+v<c.workers*c.levels)∧aav (aau c) w v=bq c (w*c.levels+v)):=by
 have h1:=h.w
 have h2:=h.l
 have h3:=h.q
 have e:=ah5 h
 have h4:=h.h
 have e1:=aEs (a:=c.levels) (b:=2+c.deque) (A:=4) (B:=6) (by omega) (by omega) (by omega) (by omega)
 have e2:wi (c.levels*wi (2+c.deque))=c.levels*(2+c.deque):=by
  rw [aaK (x:=2+c.deque) (aao (by omega)),aaK (aao (by omega))]
 have e3:wi (2+c.deque)=2+c.deque:=aaK (aao (by omega))
 have ea:atP w c.workers (aau c).queues (c.levels*(2+c.deque))=if 0≤w∧w<c.workers then (aau c).queues+w*(c.levels*(2+c.deque)) else -1:=aMA (by omega) (by omega) (by omega)
 unfold aav
 show (¬ _∧(if atP w c.workers (aau c).queues (wi (c.levels*wi (2+c.deque)))<0 then _ else if atP v c.levels (atP w c.workers (aau c).queues (wi (c.levels*wi (2+c.deque)))) (wi (2+c.deque))<0 then _
  else QV.mk (atP v c.levels (atP w c.workers (aau c).queues (wi (c.levels*wi (2+c.deque)))) (wi (2+c.deque))) (wi (atP v c.levels (atP w c.workers (aau c).queues (wi (c.levels*wi (2+c.deque)))) (wi (2+c.deque))+1)) (wi (atP v c.levels (atP w c.workers (aau c).queues (wi (c.levels*wi (2+c.deque)))) (wi (2+c.deque))+2)) c.deque)=_)∨(_∧_∧(if atP w c.workers (aau c).queues (wi (c.levels*wi (2+c.deque)))<0 then _ else if atP v c.levels (atP w c.workers (aau c).queues (wi (c.levels*wi (2+c.deque)))) (wi (2+c.deque))<0 then _
  else QV.mk (atP v c.levels (atP w c.workers (aau c).queues (wi (c.levels*wi (2+c.deque)))) (wi (2+c.deque))) (wi (atP v c.levels (atP w c.workers (aau c).queues (wi (c.levels*wi (2+c.deque)))) (wi (2+c.deque))+1)) (wi (atP v c.levels (atP w c.workers (aau c).queues (wi (c.levels*wi (2+c.deque)))) (wi (2+c.deque))+2)) c.deque)=_)
 rw [e2,e3,ea]
 by_cases hw:0≤w∧w<c.workers
 ·rw [if_pos hw]
  have e4:=aEs (a:=w) (b:=c.levels*(2+c.deque)) (A:=4) (B:=24) (by omega) (by omega) (by omega) (by omega)
  have eb:atP v c.levels ((aau c).queues+w*(c.levels*(2+c.deque))) (2+c.deque)=if 0≤v∧v<c.levels then (aau c).queues+w*(c.levels*(2+c.deque))+v*(2+c.deque) else -1:=aMA (by omega) (by omega) (by omega)
  rw [if_neg (by omega),eb]
  by_cases hv:0≤v∧v<c.levels
  ·rw [if_pos hv]
   have e5:=aEs (a:=v) (b:=2+c.deque) (A:=4) (B:=6) (by omega) (by omega) (by omega) (by omega)
   have e6:=aEs (a:=w) (b:=c.levels) (A:=4) (B:=4) (by omega) (by omega) (by omega) (by omega)
   have e7:(w*c.levels+v)*(2+c.deque)=w*(c.levels*(2+c.deque))+v*(2+c.deque):=by rw [Int.add_mul,Int.mul_assoc]
   rw [if_neg (by omega)]
   refine .inr ⟨⟨hw,hv⟩,⟨by omega,?_⟩,?_⟩
   ·have:c.levels=1∨c.levels=2∨c.levels=3∨c.levels=4:=by omega
    rcases this with e | e | e | e<;>rw [e] at hv ⊢<;>omega
   ·unfold bq
    rw [e7,aaK (aao (by omega)),aaK (aao (by omega)),← Int.add_assoc]
  ·rw [if_neg hv,if_pos (by omega)]; exact .inl ⟨fun h =>hv h.2,rfl⟩
 ·rw [if_neg hw,if_pos (by omega)]; exact .inl ⟨fun h =>hw h.1,rfl⟩
theorem ahM (h:DecOk c) (w v:Int):aav (aau c) w v=⟨-1,-1,-1,0⟩∨∃ k,0≤k∧k<c.workers*c.levels∧aav (aau c) w v=bq c k:=by
 rcases aAT h w v with ⟨_,e⟩ | ⟨_,⟨e1,e2⟩,e⟩
 ·exact .inl e
 ·exact .inr ⟨_,e1,e2,e⟩
theorem avN (h:DecOk c) {k j:Int} (hk:0≤k∧k<c.workers*c.levels) (hj:0≤j∧j<2+c.deque):ckC c ((aau c).queues+k*(2+c.deque)+j)=if j<2 then 4 else 5:=by
 have e:=ah5 h
 have h4:=h.h
 have h3:=h.q
 have e1:(k+1)*(2+c.deque)≤c.workers*c.levels*(2+c.deque):=Int.mul_le_mul_of_nonneg_right (by omega) (by omega)
 have e2:(k+1)*(2+c.deque)=k*(2+c.deque)+(2+c.deque):=by rw [Int.add_mul,Int.one_mul]
 have e3:0≤k*(2+c.deque):=Int.mul_nonneg hk.1 (by omega)
 have e4:((aau c).queues+k*(2+c.deque)+j-(aau c).queues) % (2+c.deque)=j:=by
  have:(aau c).queues+k*(2+c.deque)+j-(aau c).queues=j+k*(2+c.deque):=by omega
  rw [this,Int.add_mul_emod_self_right,Int.emod_eq_of_lt hj.1 hj.2]
 unfold ckC
 rw [if_neg (by omega),if_neg (by omega),if_neg (by omega),if_neg (by omega),if_neg (by omega),if_pos (by omega),e4]
theorem aFY (h:DecOk c) (w v:Int):Fr c (aav (aau c) w v).top:=by
 have h3:=h.q
 rcases ahM h w v with e | ⟨k,h1,h2,e⟩<;>rw [e]
 ·exact arT ag3 (by omega)
 ·have:=avN h ⟨h1,h2⟩ (j:=0) (by omega)
  rw [Int.add_zero,if_pos (by omega)] at this
  exact arT this (by omega)
theorem anp (h:DecOk c) (w v:Int):Fr c (aav (aau c) w v).bottom:=by
 have h3:=h.q
 rcases ahM h w v with e | ⟨k,h1,h2,e⟩<;>rw [e]
 ·exact arT ag3 (by omega)
 ·have:=avN h ⟨h1,h2⟩ (j:=1) (by omega)
  rw [if_pos (by omega)] at this
  exact arT this (by omega)
theorem ap5 (h:DecOk c) (w v:Int) {b:Int} (hb:0≤b):ckC c (ah2 (aav (aau c) w v) b)=5∨ckC c (ah2 (aav (aau c) w v) b)=9:=by
 have h3:=h.q
 rcases ahM h w v with e | ⟨k,h1,h2,e⟩<;>rw [e]
 ·refine .inr ?_
  unfold ah2
  rw [if_pos (by show (0:Int)<1; omega),ag3]
 ·refine .inl ?_
  have e0:=ah5 h
  have h4:=h.h
  have h5:=h.rg
  have e1:=aAc (a:=b) (b:=c.deque) (by omega) hb
  have e2:k*(2+c.deque)≤c.workers*c.levels*(2+c.deque):=Int.mul_le_mul_of_nonneg_right (by omega) (by omega)
  have e3:0≤k*(2+c.deque):=Int.mul_nonneg h1 (by omega)
  unfold ah2 bq
  simp only
  rw [if_neg (by omega),agv (x:=c.deque) (by omega),aaK (x:=Int.tmod b c.deque) (aao (by omega)),aaK (aao (by omega))]
  have:=avN h ⟨h1,h2⟩ (j:=2+Int.tmod b c.deque) (by omega)
  rw [if_neg (by omega),← Int.add_assoc] at this
  exact this
theorem aHx (h:DecOk c) (w v:Int) {b x:Int} (hb:0≤b) (hx:0≤x∧x<c.tasks):CellOk c (ah2 (aav (aau c) w v) b) x:=by
 have e:=ap5 h w v hb
 exact ⟨hx.1,fun k =>by omega,fun k =>hx.2,fun k =>by omega⟩
end
theorem az2 (x:Int):IntKind.u64.wrap x=x % 18446744073709551616:=by
 simp [IntKind.wrap,IntKind.signed,IntKind.bits]
theorem aio (a:Int):0≤wu a:=(aIU a).1
theorem ayu (a b:Int):0≤orU a b:=aio _
theorem aoF (a b:Int):0≤aoG a b:=aio _
theorem aix {e:EnvP} {k a v b:Int}:(e.pt k a v).gt b=if b=a∧0≤a∧a<(e.m.cells.length:Int) then v else e.gt b:=by
 show (e.m.pt k a v).gt b=if _ then v else e.m.gt b
 unfold MemV.pt
 by_cases ha:0≤a∧a<(e.m.cells.length:Int)
 ·rw [if_pos ha]
  unfold MemV.gt
  simp only [List.length_set]
  by_cases hb:0≤b∧b<(e.m.cells.length:Int)
  ·rw [if_pos hb,if_pos hb]
   by_cases hab:b=a
   ·rw [if_pos ⟨hab,ha⟩,hab,akU ha]
   ·rw [if_neg (fun h =>hab h.1)]
    show atL _ (e.m.cells.set a.toNat v) b=atL _ e.m.cells b
    unfold atL
    rw [List.getElem?_set_ne (by omega)]
  ·rw [if_neg hb,if_neg hb,if_neg (fun (h:b=a∧_) =>hb (by rw [h.1]; exact h.2))]
 ·rw [if_neg ha,if_neg (fun h =>ha h.2)]
theorem aw8 {e:EnvP} {a b:Int}:(e.lk a).gt b=e.gt b:=by
 have:(e.pt 1 a (e.gt a)).gt b=e.gt b:=by
  rw [aix]
  split
  ·rename_i h; rw [h.1]
  ·rfl
 exact this
structure MI (c:Cfg) (e:EnvP):Prop where
 d:DecOk c
 l:e.l=aau c
 cc:e.c=c
 ok:∀ a,CellOk c a (e.gt a)
def Pl (c:Cfg) (x:Ev):Prop:=(0≤x.task∧x.task<c.tasks)∧x.kind≠1∧x.kind≠3∧x.kind≠11∧x.kind≠12
abbrev Lv (c:Cfg) (e:EnvP) (t:Int):Int:=e.gt (ab2 (aau c) t)
structure Qt (c:Cfg) (e e':EnvP):Prop where
 i:MI c e'
 lv:∀ t,Lv c e' t=Lv c e t
 nx:e'.gt 0=e.gt 0
 ev:∃ l,e'.evs=e.evs++l∧∀ x∈l,Pl c x
section
variable {c:Cfg} {e e':EnvP} {a v k o t:Int}
theorem MI.p (h:MI c e) (a:Int):0≤e.gt a:=(h.ok a).p
theorem MI.lk (h:MI c e):MI c (e.lk a):=⟨h.d,h.l,h.cc,fun b =>by rw [aw8]; exact h.ok b⟩
theorem MI.pt (h:MI c e) (hv:CellOk c a v):MI c (e.pt k a v):=⟨h.d,h.l,h.cc,fun b =>by
 rw [aix]
 split
 ·rename_i q; rw [q.1]; exact hv
 ·exact h.ok b⟩
theorem Qt.refl (h:MI c e):Qt c e e:=⟨h,fun _ =>rfl,rfl,[],by simp,fun x hx =>by cases hx⟩
theorem Qt.lk (h:MI c e):Qt c e (e.lk a):=⟨h.lk,fun _ =>aw8,aw8,[],by show e.evs=_; simp,fun x hx =>by cases hx⟩
theorem agM (h:DecOk c):ckC c (ab2 (aau c) t)=6∨(ckC c (ab2 (aau c) t)=9∧ab2 (aau c) t=-1):=by
 have e1:=atZ h (t:=t) (f:=1) (by omega)
 have e2:=aeq h (t:=t) (f:=1) (by omega)
 show ckC c (adx (aau c) t 1)=6∨(ckC c (adx (aau c) t 1)=9∧adx (aau c) t 1=-1)
 by_cases ht:0≤t∧t<c.tasks
 ·rw [e1,if_pos ht,if_pos rfl]; exact .inl rfl
 ·rw [e1,e2,if_neg ht,if_neg ht]; exact .inr ⟨rfl,rfl⟩
theorem afY:ckC c 0=0:=by unfold ckC; rw [if_neg (by omega),if_pos rfl]
theorem Qt.wr (h:MI c e) (h0:ckC c a≠0) (h6:ckC c a≠6) (hv:CellOk c a v):Qt c e (e.pt k a v):=by
 refine ⟨h.pt hv,fun t =>?_,?_,[],by show e.evs=_; simp,fun x hx =>by cases hx⟩
 ·show (e.pt k a v).gt _=e.gt _
  rw [aix]
  split
  ·rename_i q
   rcases agM h.d (t:=t) with h1 | ⟨_,h1⟩
   ·rw [q.1] at h1; exact absurd h1 h6
   ·omega
  ·rfl
 ·rw [aix]
  split
  ·rename_i q
   rw [← q.1] at h0
   exact absurd afY h0
  ·rfl
theorem Qt.fr (h:MI c e) (ha:Fr c a) (hv:0≤v):Qt c e (e.pt k a v):=.wr h ha.1 ha.2.2.2 (ha.ok hv)
theorem Qt.cas (h:MI c e) (ha:Fr c a) (hv:0≤v):Qt c e (e.cas a o v):=by
 refine Qt.fr h ha ?_
 show 0≤if _ then v else e.m.gt a
 split
 ·exact hv
 ·exact h.p a
theorem Qt.ring (h:MI c e) (w u:Int) {b:Int} (hb:0≤b) (hv:0≤v∧v<c.tasks):Qt c e (e.pt k (ah2 (aav (aau c) w u) b) v):=by
 have:=ap5 h.d w u hb
 exact .wr h (by omega) (by omega) (aHx h.d w u hb hv)
def aeA (c:Cfg) (k:Int):Prop:=0≤k∧aoG k 65535<c.tasks
theorem Qt.slot (h:MI c e) {i:Int} (hv:aeA c v):Qt c e (e.pt k (afL (aau c) i) v):=by
 have:=ap4 h.d (i:=i)
 exact .wr h (by omega) (by omega) (aHw h.d hv.1 hv.2)
theorem Qt.em {w l:Int} (h:Qt c e e') (ht:0≤t∧t<c.tasks) (hk:k≠1∧k≠3∧k≠11∧k≠12):Qt c e (e'.em k w t o l):=by
 obtain ⟨m,hm,hp⟩:=h.ev
 refine ⟨⟨h.i.d,h.i.l,h.i.cc,h.i.ok⟩,h.lv,h.nx,m++[⟨k,w,t,o,l⟩],?_,fun x hx =>?_⟩
 ·show e'.evs++[_]=_
  rw [hm,List.append_assoc]
 ·rcases List.mem_append.1 hx with hx | hx
  ·exact hp x hx
  ·rw [List.mem_singleton.1 hx]
   exact ⟨ht,hk⟩
theorem Qt.pr {r:RecP} (h:Qt c e e'):Qt c e (e'.pr t r):=⟨⟨h.i.d,h.i.l,h.i.cc,h.i.ok⟩,h.lv,h.nx,h.ev⟩
theorem aw7 (h:MI c e) (w u:Int) {b:Int} (hb:0≤b):0≤wi (e.gt (ah2 (aav (aau c) w u) b))∧wi (e.gt (ah2 (aav (aau c) w u) b))<c.tasks:=by
 have h1:=h.ok (ah2 (aav (aau c) w u) b)
 have h2:=h.d.t
 have h3:e.gt (ah2 (aav (aau c) w u) b)<c.tasks:=by
  rcases ap5 h.d w u hb with h4 | h4
  ·exact h1.r h4
  ·have:e.gt (ah2 (aav (aau c) w u) b)=0:=by
    show e.m.gt _=0
    unfold MemV.gt
    rw [if_neg]
    intro h5
    have h6:ckC c (ah2 (aav (aau c) w u) b)≠9:=by
     unfold ckC; repeat' split
     all_goals omega
    exact h6 h4
   omega
 have h4:=h1.p
 rw [aaK (aao (by omega))]
 exact ⟨h4,h3⟩
theorem ajx (h:MI c e) (i:Int):aeA c (e.gt (afL (aau c) i)):=by
 have h1:=h.ok (afL (aau c) i)
 have h2:=h.d.t
 refine ⟨h1.p,?_⟩
 rcases ap4 h.d (i:=i) with h4 | h4
 ·exact h1.s h4
 ·have:e.gt (afL (aau c) i)=0:=by
   show e.m.gt _=0
   unfold MemV.gt
   rw [if_neg]
   intro h5
   have h6:ckC c (afL (aau c) i)≠9:=by
    unfold ckC; repeat' split
    all_goals omega
   exact h6 h4
  rw [this]
  show aoG 0 65535<_
  have:aoG 0 65535=0:=by decide
  omega
theorem ayL (h:MI c e) (t:Int):0≤Lv c e t∧Lv c e t<c.levels:=by
 have h1:=h.ok (ab2 (aau c) t)
 have h2:=h.d.l
 refine ⟨h1.p,?_⟩
 rcases agM h.d (t:=t) with h4 | ⟨_,h4⟩
 ·exact h1.l h4
 ·show e.m.gt (ab2 (aau c) t)<_
  rw [h4]
  unfold MemV.gt
  rw [if_neg (by omega)]
  omega
end
def Rs.Q {σ:Type} (P:σ→Prop) (F:Int→Int→Prop):Rs σ→Prop
 | .go s =>P s
 | .fin c v =>F c v
theorem Rs.Q.ite {σ:Type} {P:σ→Prop} {F:Int→Int→Prop} {p:Prop} [Decidable p] {a b:Rs σ} (h1:p→a.Q P F) (h2:¬ p→b.Q P F):(if p then a else b).Q P F:=by
 split
 ·exact h1 ‹_›
 ·exact h2 ‹_›
def TOk (c:Cfg) (t:Int):Prop:=0≤t∧t<c.tasks
def aoL:OPushS→Prop
 | .l1 =>True
 | .l2 b =>0≤b
 | .l3 b =>0≤b
 | .l4 b =>0≤b
def aCU:OPopS→Prop
 | .l1 =>True
 | .l2 b =>0≤b
 | .l3 b _ =>0≤b
 | .l4 b _ =>0≤b
 | .l5 b _ =>0≤b
 | .l6 b _ =>0≤b
 | .l7 b _ =>0≤b
 | .l8 b _ =>0≤b
 | .l9 b _ =>0≤b
def axE (c:Cfg):StealS→Prop
 | .l1 =>True
 | .l2 t =>0≤t
 | .l3 t =>0≤t
 | .l4 _ v =>TOk c (wi v)
def aqb (c:Cfg):InsertS→Prop
 | .l1 =>True
 | .l2 _ =>True
 | .l3 _ _ k x =>aeA c k∧aeA c x
 | .l4 _ _ k x =>aeA c k∧aeA c x
 | .l5 _ _ k x =>aeA c k∧aeA c x
 | .l6 _ _ k x =>aeA c k∧aeA c x
def anK (c:Cfg):RemoveS→Prop
 | .l1 =>True
 | .l2 _ =>True
 | .l3 _ x =>aeA c x
 | .l4 _ x y =>aeA c x∧aeA c y
 | .l5 _ _ _ x y z =>aeA c x∧aeA c y∧aeA c z
 | .l6 _ _ _ x y z =>aeA c x∧aeA c y∧aeA c z
 | .l7 _ _ _ x y z =>aeA c x∧aeA c y∧aeA c z
 | .l8 _ _ _ x y z =>aeA c x∧aeA c y∧aeA c z
section
variable {c:Cfg} {e:EnvP} {w v x:Int}
theorem aHp (h:MI c e) (hx:TOk c x) (s:OPushS) (hs:aoL s):Qt c e (ae3 (aav (aau c) w v) x e s).2∧(ae3 (aav (aau c) w v) x e s).1.Q aoL (fun _ _ =>True):=by
 have ht:=h.d.t
 cases s with
 | l1 =>exact ⟨.lk h,h.p _⟩
 | l2 b =>exact ⟨.lk h,.ite (fun _ =>trivial) fun _ =>hs⟩
 | l3 b =>exact ⟨.ring h _ _ hs (by rw [agv (by unfold TOk at hx; omega)]; exact hx),hs⟩
 | l4 b =>exact ⟨.fr h (anp h.d _ _) (aio _),trivial⟩
theorem aJC (h:MI c e) (s:OPopS) (hs:aCU s):Qt c e (al0 (aav (aau c) w v) e s).2∧(al0 (aav (aau c) w v) e s).1.Q aCU (fun r x =>r=1→TOk c x):=by
 cases s with
 | l1 =>exact ⟨.lk h,h.p _⟩
 | l2 b =>exact ⟨.lk h,.ite (fun _ =>fun h =>absurd h (by omega)) fun _ =>hs⟩
 | l3 b t =>exact ⟨.fr h (anp h.d _ _) (aio _),hs⟩
 | l4 b t =>exact ⟨.lk h,.ite (fun _ =>hs) fun _ =>.ite (fun _ =>hs) fun _ =>hs⟩
 | l5 b t =>exact ⟨.lk h,fun _ =>aw7 h _ _ (aio _)⟩
 | l6 b t =>exact ⟨.cas h (aFY h.d _ _) (aio _),.ite (fun _ =>hs) fun _ =>hs⟩
 | l7 b t =>exact ⟨.fr h (anp h.d _ _) hs,hs⟩
 | l8 b t =>exact ⟨.lk h,fun _ =>aw7 h _ _ (aio _)⟩
 | l9 b t =>exact ⟨.fr h (anp h.d _ _) hs,fun h =>absurd h (by omega)⟩
theorem aGz (h:MI c e) (s:StealS) (hs:axE c s):Qt c e (ahE (aav (aau c) w v) e s).2∧(ahE (aav (aau c) w v) e s).1.Q (axE c) (fun r x =>r=1→TOk c x):=by
 cases s with
 | l1 =>exact ⟨.lk h,h.p _⟩
 | l2 b =>exact ⟨.lk h,.ite (fun _ =>fun h =>absurd h (by omega)) fun _ =>hs⟩
 | l3 t =>exact ⟨.lk h,aw7 h _ _ hs⟩
 | l4 t u =>exact ⟨.cas h (aFY h.d _ _) (aio _),.ite (fun _ =>fun _ =>hs) fun _ =>fun h =>absurd h (by omega)⟩
theorem aAN {a b:Int} (h:MI c e) (s:ResetS):Qt c e (afw (aaI (aau c) a) b (aav (aau c) w v) e s).2:=by
 cases s with
 | l1 =>exact .fr h (ari h.d) (aoF _ _)
 | l2 =>exact .lk h
 | l3 x =>exact .lk h
 | l4 x =>exact .fr h (ari h.d) (ayu _ _)
theorem aLz {a b:Int} (h:MI c e):Qt c e (aDC (aaI (aau c) a) b e):=.fr h (ari h.d) (ayu _ _)
theorem ame {t:Int} (h:MI c e) (ht:TOk c t):Qt c e (aeU w t e):=by
 unfold aeU
 rw [h.l]
 split
 ·split
  ·exact (Qt.cas h (ahm h.d) (by omega)).em ht (by omega)
  ·exact (Qt.cas h (ahm h.d) (by omega)).pr.em ht (by omega)
 ·exact (Qt.cas h (ahm h.d) (by omega)).em ht (by omega)
theorem avw {o:Int} (h:MI c e):Qt c e (arP o e):=.cas h (arh h.d (by omega)) (aio _)
theorem aBQ (h:MI c e):Qt c e (atG e):=.fr h (arh h.d (by omega)) (by omega)
theorem auL (h:MI c e):ckC c (ag6 w e)=3∨ckC c (ag6 w e)=9:=by
 unfold ag6
 rw [h.l]
 split
 ·exact .inr ag3
 ·exact arA h.d
theorem axK {j:Int} (h:MI c e):ckC c (alq v j e)=3∨ckC c (alq v j e)=9:=by
 unfold alq
 rw [h.l]
 split
 ·exact .inr ag3
 ·exact arA h.d
theorem aqq (h:MI c e):Fr c (ag6 w e):=arT rfl (by have:=auL (w:=w) h; omega)
theorem aDb {j:Int} (h:MI c e):Fr c (alq v j e):=arT rfl (by have:=axK (v:=v) (j:=j) h; omega)
theorem TOk.zero (h:DecOk c):0≤(0:Int)∧0<c.tasks:=by have:=h.t; omega
theorem aGG (h:MI c e) (s:SleepS):Qt c e (adN w e s).2:=by
 have hz:=TOk.zero h.d
 cases s with
 | l1 =>exact .lk h
 | l2 ep =>exact .fr h (aqq h) (ayu _ _)
 | l3 ep =>exact .lk h
 | l4 ep v =>
  simp only [adN]
  split
  ·exact .lk h
  ·split
   ·exact (Qt.lk h).em hz (by omega)
   ·exact .lk h
 | l5 ep v s =>
  simp only [adN]
  split
  ·exact (Qt.lk h).em hz (by omega)
  ·split
   ·exact (Qt.lk h).em hz (by omega)
   ·exact .lk h
 | l6 _ _ _ =>exact .fr h (aqq h) (aoF _ _)
 | l7 _ _ _ =>exact .fr h (aqq h) (aoF _ _)
theorem auC (h:MI c e) (s:WakeS):Qt c e (aez w v e s).2:=by
 have hz:=TOk.zero h.d
 cases s with
 | l1 j =>exact .lk h
 | l2 j x =>exact .fr h (aDb h) (aoF _ _)
 | l3 j x =>
  show Qt c e ((e.pt 6 (agK e.l x) _).em 18 w 0 x 0)
  rw [h.l]
  exact (Qt.fr h (aEG h.d) (aio _)).em hz (by omega)
theorem aHe (h:MI c e) (s:ProbeS):Qt c e (ajR w e s).2:=by
 have g:∀ s i bm,Qt c e (ag8 w e s i bm).2:=fun s i bm =>by
  unfold ag8
  split
  ·exact .refl h
  ·simp only
   split
   ·exact .lk h
   ·exact .lk h
 cases s with
 | new =>exact g _ _ _
 | run s i bm =>exact g _ _ _
end
theorem aiU (a:Int):(BitVec.ofInt 64 a).toNat=(a % 18446744073709551616).toNat:=by
 rw [BitVec.toNat_ofInt]; rfl
theorem amm {n:Nat} (h:n<18446744073709551616):IntKind.u64.wrap (n:Int)=(n:Int):=by
 rw [az2]; omega
theorem awU (a b:Int):orU a b=(((a % 18446744073709551616).toNat ||| (b % 18446744073709551616).toNat:Nat):Int):=by
 show IntKind.u64.wrap ((BitVec.ofInt 64 a ||| BitVec.ofInt 64 b).toNat:Int)=_
 rw [BitVec.toNat_or,aiU,aiU,amm]
 exact Nat.or_lt_two_pow (n:=64) (by omega) (by omega)
theorem auj (a:Int):aoG a 65535=(((a % 18446744073709551616).toNat % 65536:Nat):Int):=by
 show IntKind.u64.wrap ((BitVec.ofInt 64 a &&& BitVec.ofInt 64 65535).toNat:Int)=_
 have e:((65535:Int) % 18446744073709551616).toNat=2 ^ 16-1:=by decide
 rw [BitVec.toNat_and,aiU,aiU,e,Nat.and_two_pow_sub_one_eq_mod,amm (by omega)]
theorem aBj (a b:Int):(orU a b).toNat % 65536=((a % 18446744073709551616).toNat % 65536) ||| ((b % 18446744073709551616).toNat % 65536):=by
 rw [awU,Int.toNat_natCast]
 exact Nat.or_mod_two_pow (n:=16)
theorem aBi (a b:Int):orU a b % 18446744073709551616=orU a b:=by
 have h:(a % 18446744073709551616).toNat ||| (b % 18446744073709551616).toNat<2 ^ 64:=Nat.or_lt_two_pow (by omega) (by omega)
 rw [awU]
 omega
theorem aDW {d a t:Int} (ht:0≤t∧t≤65535):aoG (aqG d a t).1 65535=t∨(aqG d a t).1=0:=by
 unfold aqG
 by_cases h1:d<0
 ·rw [if_pos h1]; exact .inr rfl
 rw [if_neg h1]
 by_cases h2:16777215<d
 ·rw [if_pos h2]; exact .inr rfl
 rw [if_neg h2]
 by_cases h3:a<0
 ·rw [if_pos h3]; exact .inr rfl
 rw [if_neg h3]
 by_cases h4:16777215<a
 ·rw [if_pos h4]; exact .inr rfl
 rw [if_neg h4,if_neg (by omega),if_neg (by omega)]
 refine .inl ?_
 simp only
 rw [auj,aBi,aBj,aBi,aBj]
 have p40:(2:Int) ^ min (40:Int).toNat IntKind.u64.bits=1099511627776:=by decide
 have p16:(2:Int) ^ min (16:Int).toNat IntKind.u64.bits=65536:=by decide
 rw [p40,p16,agv (x:=d) (by omega),agv (x:=a) (by omega),agv (x:=t) (by omega)]
 have e1:((wu (d*1099511627776)) % 18446744073709551616).toNat % 65536=0:=by
  have:wu (d*1099511627776)=d*1099511627776 % 18446744073709551616:=az2 _
  rw [this]; omega
 have e2:((wu (a*65536)) % 18446744073709551616).toNat % 65536=0:=by
  have:wu (a*65536)=a*65536 % 18446744073709551616:=az2 _
  rw [this]; omega
 rw [e1,e2]
 simp
 omega
theorem aHf {c:Cfg} (hd:DecOk c) {d a t:Int} (ht:TOk c t):aeA c (aqG d a t).1:=by
 have h:=hd.t
 have h2:0≤(aqG d a t).1:=by
  unfold aqG
  repeat' split
  all_goals first | exact Int.le_refl 0 | exact ayu _ _
 refine ⟨h2,?_⟩
 rcases aDW (d:=d) (a:=a) (t:=t) (by unfold TOk at ht; omega) with e | e
 ·rw [e]; exact ht.2
 ·rw [e,auj]; simp; omega
theorem atz {c:Cfg} (hd:DecOk c) {k:Int} (hk:aeA c k):TOk c (avA k):=by
 have h:=hd.t
 have e:avA k=aoG k 65535:=by
  show wi (aoG k 65535)=_
  have h1:=aoF k 65535
  have h2:=hk.2
  exact aaK (aao (by omega))
 unfold TOk
 rw [e]
 exact ⟨aoF _ _,hk.2⟩
theorem aty {c:Cfg} (hd:DecOk c):aeA c 0:=by
 have h:=hd.t
 refine ⟨Int.le_refl 0,?_⟩
 rw [auj]; simp; omega
section
variable {c:Cfg} {e:EnvP} {w x:Int}
theorem ayg {n i k x:Int} (h1:aeA c k) (h2:aeA c x):aqb c (au9 n i k x):=by
 unfold au9
 split
 ·exact ⟨h1,h2⟩
 ·exact ⟨h1,h2⟩
theorem ayJ {d t:Int} (h:MI c e) (ht:TOk c t) (s:InsertS) (hs:aqb c s):Qt c e (acf d t e s).2∧(acf d t e s).1.Q (aqb c) (fun _ _ =>True):=by
 cases s with
 | l1 =>exact ⟨.lk h,.ite (fun _ =>trivial) fun _ =>trivial⟩
 | l2 n =>exact ⟨.fr h (arh h.d (by omega)) (aio _),.ite (fun _ =>ayg (aHf h.d ht) (aty h.d)) fun _ =>trivial⟩
 | l3 n i k x =>
  unfold acf
  rw [h.l]
  exact ⟨.lk h,.ite (fun _ =>⟨hs.1,ajx h _⟩) fun _ =>⟨hs.1,ajx h _⟩⟩
 | l4 n i k x =>
  unfold acf
  rw [h.l]
  exact ⟨.slot h hs.2,ayg hs.1 hs.2⟩
 | l5 n i k x =>
  unfold acf
  rw [h.l]
  exact ⟨.slot h hs.1,hs⟩
 | l6 n i k x =>exact ⟨.fr h (arh h.d (by omega)) (aio _),trivial⟩
theorem ay8 {n i d x y z:Int} (h1:aeA c x) (h2:aeA c y) (h3:aeA c z):anK c (avV n i d x y z):=by
 unfold avV
 split
 ·exact ⟨h1,h2,h3⟩
 ·exact ⟨h1,h2,h3⟩
theorem axg {n i d x y z:Int} (h1:aeA c x) (h2:aeA c y) (h3:aeA c z):anK c (azH n i d x y z):=by
 unfold azH
 split
 ·exact ⟨h1,h2,h3⟩
 ·exact ⟨h1,h2,h3⟩
theorem aDO (h:MI c e) (s:RemoveS) (hs:anK c s):Qt c e (acP w e s).2∧(acP w e s).1.Q (anK c) (fun r x =>r≠2→TOk c x):=by
 cases s with
 | l1 =>exact ⟨.lk h,.ite (fun _ =>fun h =>absurd rfl h) fun _ =>trivial⟩
 | l2 n =>
  unfold acP
  rw [h.l]
  exact ⟨.lk h,ajx h _⟩
 | l3 n x =>
  unfold acP
  rw [h.l]
  exact ⟨.lk h,hs,ajx h _⟩
 | l4 n x y =>exact ⟨(Qt.fr h (arh h.d (by omega)) (aio _)).em (atz h.d hs.1) (by omega),.ite (fun _ =>fun _ =>atz h.d hs.1) fun _ =>ay8 hs.1 hs.2 (aty h.d)⟩
 | l5 n i d x y z =>
  unfold acP
  rw [h.l]
  exact ⟨.lk h,.ite (fun _ =>⟨hs.1,hs.2.1,ajx h _⟩) fun _ =>axg hs.1 hs.2.1 (ajx h _)⟩
 | l6 n i d x y z =>
  unfold acP
  rw [h.l]
  exact ⟨.lk h,.ite (fun _ =>axg hs.1 hs.2.1 (ajx h _)) fun _ =>axg hs.1 hs.2.1 hs.2.2⟩
 | l7 n i d x y z =>
  unfold acP
  rw [h.l]
  exact ⟨.slot h hs.2.2,ay8 hs.1 hs.2.1 hs.2.2⟩
 | l8 n i d x y z =>
  unfold acP
  rw [h.l]
  exact ⟨.slot h hs.2.1,fun _ =>atz h.d hs.1⟩
end
structure Rsd (c:Cfg) (e e':EnvP) (t v:Int):Prop where
 i:MI c e'
 tk:TOk c t
 vk:0≤v∧v<c.levels
 up:Lv c e t<v
 now:Lv c e' t=v
 ot:∀ u,u≠t→Lv c e' u=Lv c e u
 nx:e'.gt 0=e.gt 0
 ev:∃ k w o l,(k=11∨k=12)∧e'.evs=e.evs++(⟨k,w,t,o,v⟩::l)∧∀ x∈l,Pl c x
def Rz (c:Cfg) (e e':EnvP):Prop:=Qt c e e'∨∃ t v,Rsd c e e' t v
section
variable {c:Cfg} {e e':EnvP} {w v x:Int}
theorem Rsd.em {t v k w u o l:Int} (h:Rsd c e e' t v) (ht:0≤u∧u<c.tasks) (hk:k≠1∧k≠3∧k≠11∧k≠12):Rsd c e (e'.em k w u o l) t v:=by
 obtain ⟨k1,w1,o1,m,h1,hm,hp⟩:=h.ev
 refine ⟨⟨h.i.d,h.i.l,h.i.cc,h.i.ok⟩,h.tk,h.vk,h.up,h.now,h.ot,h.nx,k1,w1,o1,m++[⟨k,w,u,o,l⟩],h1,?_,fun x hx =>?_⟩
 ·show e'.evs++[_]=_
  rw [hm,List.append_assoc,List.cons_append]
 ·rcases List.mem_append.1 hx with hx | hx
  ·exact hp x hx
  ·rw [List.mem_singleton.1 hx]
   exact ⟨ht,hk⟩
theorem Rz.em {k w u o l:Int} (h:Rz c e e') (ht:0≤u∧u<c.tasks) (hk:k≠1∧k≠3∧k≠11∧k≠12):Rz c e (e'.em k w u o l):=by
 rcases h with h | ⟨t,v,h⟩
 ·exact .inl (h.em ht hk)
 ·exact .inr ⟨t,v,h.em ht hk⟩
theorem Rz.i (h:Rz c e e'):MI c e':=by
 rcases h with h | ⟨t,v,h⟩
 ·exact h.i
 ·exact h.i
theorem Qt.same (h:MI c e) (h1:∀ b,e'.gt b=e.gt b) (h2:e'.l=e.l) (h3:e'.c=e.c) (h4:e'.evs=e.evs):Qt c e e' :=
 ⟨⟨h.d,by rw [h2]; exact h.l,by rw [h3]; exact h.cc,fun a =>by rw [h1]; exact h.ok a⟩,fun t =>h1 _,h1 _,[],by rw [h4]; simp,fun x hx =>by cases hx⟩
theorem apa {a o v b:Int}:(e.cas a o v).gt b=if e.hit a o=true∧b=a then v else e.gt b:=by
 have h:(e.cas a o v).gt b=(e.pt 3 a (if e.m.gt a=o then v else e.m.gt a)).gt b:=rfl
 rw [h,aix]
 by_cases hr:0≤a∧a<(e.m.cells.length:Int)
 ·have hg:e.m.gt a=agR e.m.cells a:=by unfold MemV.gt; rw [if_pos hr]
  by_cases hh:agR e.m.cells a=o
  ·have h1:e.hit a o=true:=by show decide _=true; rw [decide_eq_true ⟨hr,hh⟩]
   by_cases hb:b=a
   ·rw [if_pos (show b=a∧0≤a∧a<(e.m.cells.length:Int) from ⟨hb,hr⟩),if_pos (show e.hit a o=true∧b=a from ⟨h1,hb⟩),hg,if_pos hh]
   ·rw [if_neg (show ¬ (b=a∧0≤a∧a<(e.m.cells.length:Int)) from fun h =>hb h.1),if_neg (show ¬ (e.hit a o=true∧b=a) from fun h =>hb h.2)]
  ·have h1:¬ e.hit a o=true:=by
    show ¬ decide _=true
    rw [decide_eq_true_iff]
    exact fun h =>hh h.2
   rw [if_neg (show ¬ (e.hit a o=true∧b=a) from fun h =>h1 h.1)]
   by_cases hb:b=a
   ·rw [if_pos (show b=a∧0≤a∧a<(e.m.cells.length:Int) from ⟨hb,hr⟩),hg,if_neg hh,hb]; exact hg.symm
   ·rw [if_neg (show ¬ (b=a∧0≤a∧a<(e.m.cells.length:Int)) from fun h =>hb h.1)]
 ·have h1:¬ e.hit a o=true:=by
   show ¬ decide _=true
   rw [decide_eq_true_iff]
   exact fun h =>hr h.1
  rw [if_neg (show ¬ (e.hit a o=true∧b=a) from fun h =>h1 h.1),if_neg (show ¬ (b=a∧0≤a∧a<(e.m.cells.length:Int)) from fun h =>hr h.2)]
theorem Qt.miss {a o v:Int} (h:MI c e) (hm:¬ e.hit a o=true):Qt c e (e.cas a o v):=.same h (fun b =>by rw [apa,if_neg (fun h =>hm h.1)]) rfl rfl rfl
theorem avC {a o:Int} (h:e.hit a o=true):e.gt a=o∧0≤a:=by
 have h:decide ((0≤a∧a<(e.m.cells.length:Int))∧agR e.m.cells a=o)=true:=h
 have h:=of_decide_eq_true h
 refine ⟨?_,h.1.1⟩
 show e.m.gt a=o
 unfold MemV.gt
 rw [if_pos h.1]; exact h.2
theorem avy (hd:DecOk c) {t u:Int} (ht:TOk c t) (h:ab2 (aau c) u=ab2 (aau c) t):u=t:=by
 have e1:=aeq hd (t:=t) (f:=1) (by omega)
 have e2:=aeq hd (t:=u) (f:=1) (by omega)
 have e3:=ah5 hd
 have h4:=hd.h
 have h:adx (aau c) u 1=adx (aau c) t 1:=h
 have ht:0≤t∧t<c.tasks:=ht
 rw [e1,e2,if_pos ht] at h
 by_cases hu:0≤u∧u<c.tasks
 ·rw [if_pos hu] at h; omega
 ·rw [if_neg hu] at h; omega
theorem ayC (hd:DecOk c) {t v:Int} (hv:0≤v∧v<c.levels):CellOk c (ab2 (aau c) t) v:=by
 have e:=agM hd (t:=t)
 exact ⟨hv.1,fun k =>by omega,fun k =>by omega,fun k =>hv.2⟩
theorem aAI (h:MI c e) {t q v k w o:Int} (ht:TOk c t) (hv:0≤v∧v<c.levels) (hq:q<v) (hh:e.hit (ab2 (aau c) t) q=true) (hk:k=11∨k=12):Rsd c e ((e.cas (ab2 (aau c) t) q v).em k w t o v) t v:=by
 have hg:=avC hh
 refine ⟨⟨h.d,h.l,h.cc,fun b =>?_⟩,ht,hv,by show e.gt _<v; omega,?_,fun u hu =>?_,?_,k,w,o,[],hk,rfl,fun x hx =>by cases hx⟩
 ·show CellOk c b ((e.cas _ q v).gt b)
  rw [apa]
  split
  ·rename_i q; rw [q.2]; exact ayC h.d hv
  ·exact h.ok b
 ·show (e.cas _ q v).gt _=v
  rw [apa,if_pos ⟨hh,rfl⟩]
 ·show (e.cas _ q v).gt _=e.gt _
  rw [apa,if_neg (fun h' =>hu (avy h.d ht h'.2))]
 ·show (e.cas _ q v).gt 0=e.gt 0
  rw [apa,if_neg]
  intro h'
  have h1:=agM h.d (t:=t)
  rw [← h'.2,afY] at h1
  omega
def aur (v:Int):RaiseS→Prop
 | .l1 _ =>True
 | .l2 q =>q<v
theorem aG8 {t:Int} (h:MI c e) (s:RaiseS) (hs:aur v s):Rz c e (aeT w t v e s).2∧(aeT w t v e s).1.Q (aur v) (fun _ _ =>True):=by
 unfold aeT
 rw [h.l]
 split
 ·exact ⟨.inl (.refl h),trivial⟩
 rename_i hf
 have hf:aut e t v:=Classical.not_not.1 hf
 unfold aut at hf
 rw [h.cc] at hf
 have hl:=h.d.l
 cases s with
 | l1 q =>
  refine ⟨.inl (.lk h),?_⟩
  have hg:=ayL h t
  have e1:wi (Lv c e t)=Lv c e t:=aaK (aao (by omega))
  show Rs.Q _ _ (if v≤wi (Lv c e t) then _ else _)
  rw [e1]
  exact .ite (fun _ =>trivial) fun hn =>by show Lv c e t<v; omega
 | l2 q =>
  have e2:wu v=v:=agv (by omega)
  simp only
  split
  ·rename_i hh
   rw [e2]
   exact ⟨.inr ⟨t,v,aAI h hf.1 hf.2 hs hh (.inl rfl)⟩,trivial⟩
  ·rename_i hh
   exact ⟨.inl (.miss h hh),trivial⟩
def ajO:LPushS→Prop
 | .push s =>aoL s
 | _ =>True
theorem aqX (h:MI c e) (hx:TOk c x) (s:LPushS) (hs:ajO s):Qt c e (abO w v x e s).2∧(abO w v x e s).1.Q ajO (fun _ _ =>True):=by
 have g:∀ s,aoL s→Qt c e (match ae3 (aav e.l w v) x e s with
   | (.go s,e') =>(Rs.go (LPushS.push s),e')
   | (.fin c _,e') =>(if c=3 then .fin 3 0 else .go .set,e')).2∧(match ae3 (aav e.l w v) x e s with
   | (.go s,e') =>(Rs.go (LPushS.push s),e')
   | (.fin c _,e') =>(if c=3 then .fin 3 0 else .go .set,e')).1.Q ajO (fun _ _ =>True):=fun s hs =>by
  have:=aHp (w:=w) (v:=v) h hx s hs
  rw [h.l]
  revert this
  rcases ae3 (aav (aau c) w v) x e s with ⟨r,e'⟩
  intro this
  cases r with
  | go s =>exact this
  | fin c0 v0 =>exact ⟨this.1,.ite (fun _ =>trivial) fun _ =>trivial⟩
 cases s with
 | new =>exact g .l1 trivial
 | push s =>exact g _ hs
 | set =>
  refine ⟨?_,trivial⟩
  show Qt c e (aDC (aaI e.l w) v e)
  rw [h.l]
  exact aLz h
def aCV:LPopS→Prop
 | .l2 _ s =>aCU s
 | _ =>True
theorem aKb (h:MI c e) (s:LPopS) (hs:aCV s):Qt c e (agD w e s).2∧(agD w e s).1.Q aCV (fun r x =>r≠2→TOk c x):=by
 cases s with
 | l1 v =>
  unfold agD
  exact ⟨.lk h,.ite (fun _ =>fun h =>absurd rfl h) fun _ =>trivial⟩
 | l2 v s =>
  have:=aJC (w:=w) (v:=v) h s hs
  simp only [agD]
  rw [h.l]
  revert this
  rcases al0 (aav (aau c) w v) e s with ⟨r,e'⟩
  intro this
  cases r with
  | go s =>exact this
  | fin c0 v0 =>exact ⟨this.1,.ite (fun hc =>fun _ =>this.2 hc) fun _ =>trivial⟩
 | l3 v s =>
  have:=aAN (w:=w) (v:=v) (a:=w) (b:=v) h s
  simp only [agD]
  rw [h.l]
  revert this
  rcases afw (aaI (aau c) w) v (aav (aau c) w v) e s with ⟨r,e'⟩
  intro this
  cases r with
  | go s =>exact ⟨this,trivial⟩
  | fin c0 v0 =>exact ⟨this,trivial⟩
def arG (c:Cfg) (v:Int):WalkS→Prop
 | .l1 _ =>True
 | .raise t s =>TOk c t∧aur v s
 | .l2 t =>TOk c t
 | .push t s =>TOk c t∧ajO s
 | .l4 _ =>True
theorem aIY (h:MI c e) (s:WalkS) (hs:arG c v s):Rz c e (aeL w v e s).2∧(aeL w v e s).1.Q (arG c v) (fun _ _ =>True):=by
 have g:∀ t s,TOk c t→aur v s→Rz c e (match aeT w t v e s with
   | (.go s,e') =>(Rs.go (WalkS.raise t s),e')
   | (.fin c _,e') =>(.go (if c=1 then .l2 t else .l4 t),e')).2∧(match aeT w t v e s with
   | (.go s,e') =>(Rs.go (WalkS.raise t s),e')
   | (.fin c _,e') =>(.go (if c=1 then .l2 t else .l4 t),e')).1.Q (arG c v) (fun _ _ =>True):=fun t s ht hs =>by
  have:=aG8 (w:=w) (t:=t) h s hs
  revert this
  rcases aeT w t v e s with ⟨r,e'⟩
  intro this
  cases r with
  | go s =>exact ⟨this.1,ht,this.2⟩
  | fin c0 v0 =>
   refine ⟨this.1,?_⟩
   show arG c v (if c0=1 then .l2 t else .l4 t)
   split
   ·exact ht
   ·trivial
 cases s with
 | l1 t =>
  simp only [aeL]
  split
  ·exact ⟨.inl (.refl h),trivial⟩
  ·rename_i hf
   have hf:aut e t v:=Classical.not_not.1 hf
   unfold aut at hf
   rw [h.cc] at hf
   exact g t _ hf.1 trivial
 | raise t s =>exact g t s hs.1 hs.2
 | l2 t =>
  refine ⟨.inl (.lk h),?_⟩
  show arG c v (if e.gt (aaP e.l t)=1 then .push t .new else .l4 t)
  split
  ·exact ⟨hs,trivial⟩
  ·trivial
 | push t s =>
  have:=aqX (w:=w) (v:=v) h hs.1 s hs.2
  simp only [aeL]
  revert this
  rcases abO w v t e s with ⟨r,e'⟩
  intro this
  cases r with
  | go s =>exact ⟨.inl this.1,hs.1,this.2⟩
  | fin c0 v0 =>
   refine ⟨.inl ?_,trivial⟩
   show Qt c e (if c0=3 then e'.em 19 w t 0 v else e')
   split
   ·exact this.1.em hs.1 (by omega)
   ·exact this.1
 | l4 t =>
  simp only [aeL]
  exact ⟨.inl (.lk h),.ite (fun _ =>trivial) fun _ =>trivial⟩
def axG:EnterS→Prop
 | .l4 _ s =>ajO s
 | _ =>True
theorem aIi {t:Int} (h:MI c e) (ht:TOk c t) (s:EnterS) (hs:axG s):Qt c e (adX w t e s).2∧(adX w t e s).1.Q axG (fun _ _ =>True):=by
 cases s with
 | l1 =>
  simp only [adX]
  rw [h.l]
  split
  ·exact ⟨.refl h,trivial⟩
  ·exact ⟨.fr h (ap0 h.d) (aio _),trivial⟩
 | l2 =>
  simp only [adX]
  rw [h.l]
  exact ⟨.fr h (ahm h.d) (by omega),trivial⟩
 | l3 =>exact ⟨.lk h,trivial⟩
 | l4 v s =>
  have:=aqX (w:=w) (v:=v) h ht s hs
  simp only [adX]
  revert this
  rcases abO w v t e s with ⟨r,e'⟩
  intro this
  cases r with
  | go s =>exact this
  | fin c0 v0 =>exact ⟨this.1,trivial⟩
def auq (c:Cfg):SweepS→Prop
 | .l4 q =>0≤q∧q+1<c.levels
 | .l6 _ s =>ajO s
 | _ =>True
theorem aGn {t:Int} (h:MI c e) (ht:TOk c t) (s:SweepS) (hs:auq c s):Rz c e (abh w t e s).2∧(abh w t e s).1.Q (auq c) (fun _ _ =>True):=by
 have hl:=h.d.l
 cases s with
 | l1 =>
  simp only [abh]
  split
  ·exact ⟨.inl (.refl h),trivial⟩
  ·exact ⟨.inl (.lk h),.ite (fun _ =>trivial) fun _ =>trivial⟩
 | l2 =>
  simp only [abh]
  exact ⟨.inl (.lk h),.ite (fun _ =>trivial) fun _ =>trivial⟩
 | l3 =>
  simp only [abh]
  rw [h.l,h.cc]
  refine ⟨.inl (.lk h),.ite (fun _ =>trivial) fun hn =>?_⟩
  have hg:=ayL h t
  have e1:wi (Lv c e t)=Lv c e t:=aaK (aao (by omega))
  have e2:wi (c.levels-1)=c.levels-1:=aaK (aao (by omega))
  have hn:¬ wi (c.levels-1)≤wi (Lv c e t):=hn
  rw [e1,e2] at hn
  show 0≤Lv c e t∧Lv c e t+1<c.levels
  omega
 | l4 q =>
  have hs:0≤q∧q+1<c.levels:=hs
  have e1:wu (q+1)=q+1:=agv (by omega)
  have e2:wi (wi q+1)=q+1:=by rw [aaK (x:=q) (aao (by omega)),aaK (aao (by omega))]
  simp only [abh]
  rw [h.l,e1,e2]
  split
  ·rename_i hh
   exact ⟨.inr ⟨t,q+1,aAI h ht (by omega) (by omega) hh (.inr rfl)⟩,trivial⟩
  ·rename_i hh
   exact ⟨.inl (.miss h hh),trivial⟩
 | l5 q =>
  simp only [abh]
  rw [h.l]
  exact ⟨.inl (.fr h (ap0 h.d) (aio _)),trivial⟩
 | l6 q s =>
  have:=aqX (w:=w) (v:=wi (wi q+1)) h ht s hs
  simp only [abh]
  revert this
  rcases abO w (wi (wi q+1)) t e s with ⟨r,e'⟩
  intro this
  cases r with
  | go s =>exact ⟨.inl this.1,this.2⟩
  | fin c0 v0 =>
   refine ⟨.inl ?_,trivial⟩
   show Qt c e (if c0=3 then e'.em 19 w t 0 _ else e')
   split
   ·exact this.1.em ht (by omega)
   ·exact this.1
def aCT (c:Cfg):TakeS→Prop
 | .pop s =>aCV s
 | .claim t =>TOk c t
theorem aI4 (h:MI c e) (s:TakeS) (hs:aCT c s):Qt c e (akg w e s).2∧(akg w e s).1.Q (aCT c) (fun r x =>r=1→TOk c x):=by
 cases s with
 | pop s =>
  have:=aKb (w:=w) h s hs
  simp only [akg]
  revert this
  rcases agD w e s with ⟨r,e'⟩
  intro this
  cases r with
  | go s =>exact this
  | fin c0 v0 =>exact ⟨this.1,.ite (fun _ =>fun h =>absurd h (by omega)) fun hn =>this.2 hn⟩
 | claim t =>exact ⟨ame h hs,.ite (fun _ =>fun _ =>hs) fun _ =>trivial⟩
def awa (c:Cfg) (d:DrainS):Prop:=(d.direct=true→TOk c d.x)∧match d.c with
 | .l3 s =>anK c s
 | .l4 =>TOk c d.x
 | .l5 s =>TOk c d.x∧ajO s
 | _ =>True
theorem ayY {d:DrainS} (h:d.direct=true→TOk c d.x):(anq d).Q (awa c) (fun r x =>r=1→TOk c x):=by
 unfold anq
 exact .ite (fun k =>fun _ =>h k) fun _ =>.ite (fun _ =>fun h =>absurd h (by omega)) fun _ =>fun h =>absurd h (by omega)
theorem aIk (h:MI c e) (d:DrainS) (hd:awa c d):Qt c e (aa8 w e d).2∧(aa8 w e d).1.Q (awa c) (fun r x =>r=1→TOk c x):=by
 obtain ⟨x,dir,p,last,cnt,k⟩:=d
 obtain ⟨h1,h2⟩:=hd
 cases k with
 | l1 =>
  simp only [aa8]
  exact ⟨.lk h,.ite (fun _ =>fun h =>absurd h (by omega)) fun _ =>⟨h1,trivial⟩⟩
 | l2 =>
  simp only [aa8]
  exact ⟨avw h,.ite (fun _ =>⟨h1,trivial⟩) fun _ =>fun h =>absurd h (by omega)⟩
 | l3 s =>
  have:=aDO (w:=w) h s h2
  simp only [aa8]
  revert this
  rcases acP w e s with ⟨r,e'⟩
  intro this
  cases r with
  | go s =>exact ⟨this.1,h1,this.2⟩
  | fin c0 v0 =>exact ⟨this.1,.ite (fun _ =>⟨h1,trivial⟩) fun hn =>⟨fun _ =>this.2 hn,this.2 hn⟩⟩
 | l4 =>
  simp only [aa8]
  exact ⟨.lk h,h1,h2,trivial⟩
 | l5 s =>
  have:=aqX (w:=w) (v:=p) h h2.1 s h2.2
  simp only [aa8]
  revert this
  rcases abO w p x e s with ⟨r,e'⟩
  intro this
  cases r with
  | go s =>exact ⟨this.1,h1,h2.1,this.2⟩
  | fin c0 v0 =>exact ⟨this.1,.ite (fun _ =>⟨fun _ =>h2.1,trivial⟩) fun _ =>.ite (fun _ =>⟨h1,trivial⟩) fun _ =>⟨h1,trivial⟩⟩
 | l6 =>
  simp only [aa8]
  exact ⟨aBQ h,.ite (fun _ =>⟨h1,trivial⟩) fun _ =>ayY h1⟩
 | l7 s =>
  have:=auC (w:=w) (v:=last) h s
  simp only [aa8]
  revert this
  rcases aez w last e s with ⟨r,e'⟩
  intro this
  cases r with
  | go s =>exact ⟨this,h1,trivial⟩
  | fin c0 v0 =>exact ⟨this,ayY h1⟩
end
structure Al (c:Cfg) (e e':EnvP):Prop where
 i:MI c e'
 lv:∀ t,Lv c e' t=Lv c e t
 nx:e'.gt 0=wu (e.gt 0+1)∨e'.gt 0=e.gt 0
 ev:∃ l,e'.evs=e.evs++l∧∀ x∈l,Pl c x
structure Al1 (c:Cfg) (e e':EnvP):Prop where
 a:Al c e e'
 n:e'.gt 0=wu (e.gt 0+1)
structure W0 (c:Cfg) (e e':EnvP) (t v:Int):Prop where
 i:MI c e'
 now:Lv c e' t=v
 ot:∀ u,u≠t→Lv c e' u=Lv c e u
 nx:e'.gt 0=e.gt 0
 ev:e'.evs=e.evs
structure An (c:Cfg) (e e':EnvP) (t v:Int):Prop where
 i:MI c e'
 lv:∀ t,Lv c e' t=Lv c e t
 nx:e'.gt 0=e.gt 0
 ev:∃ l k w o,(k=1∨k=3)∧(∀ x∈l,Pl c x)∧e'.evs=e.evs++l++[⟨k,w,t,o,v⟩]
abbrev asG:=Option (Int×Int×Bool)
inductive Tr (c:Cfg) (e e':EnvP):asG→asG→Prop
 | same (p:asG) (h:Rz c e e'):Tr c e e' p p
 | drop (p:asG) (h:Rz c e e'):Tr c e e' p none
 | al (h:Al c e e'):Tr c e e' none none
 | al1 (v:Int) (h:Al1 c e e') (ht:TOk c (wi (e.gt 0))) (hv:0≤v∧v<c.levels):Tr c e e' none (some (wi (e.gt 0),v,false))
 | w0 (t v:Int) (h:W0 c e e' t v):Tr c e e' (some (t,v,false)) (some (t,v,true))
 | an (t v:Int) (h:An c e e' t v):Tr c e e' (some (t,v,true)) none
section
variable {c:Cfg} {e e':EnvP} {w:Int}
theorem Tr.i {p q:asG} (h:Tr c e e' p q):MI c e':=by
 cases h with
 | same _ h =>exact h.i
 | drop _ h =>exact h.i
 | al h =>exact h.i
 | al1 _ h =>exact h.a.i
 | w0 _ _ h =>exact h.i
 | an _ _ h =>exact h.i
theorem aFe (h:MI c e):Al c e (ab6 e)∧(0<(e.m.cells.length:Int)→Al1 c e (ab6 e)):=by
 have hv:CellOk c 0 (wu (e.gt 0+1)):=⟨aio _,fun k =>by rw [afY] at k; omega,fun k =>by rw [afY] at k; omega,fun k =>by rw [afY] at k; omega⟩
 have hl:∀ t,Lv c (ab6 e) t=Lv c e t:=fun t =>by
  show (e.pt 6 0 (wu (e.gt 0+1))).gt _=e.gt _
  rw [aix,if_neg]
  intro h'
  have h1:=agM h.d (t:=t)
  rw [h'.1,afY] at h1
  omega
 have hn:(ab6 e).gt 0=if (0:Int)=0∧0≤(0:Int)∧0<(e.m.cells.length:Int) then wu (e.gt 0+1) else e.gt 0:=aix
 have ha:Al c e (ab6 e):=⟨h.pt hv,hl,by rw [hn]; split; exact .inl rfl; exact .inr rfl,[],by show e.evs=_; simp,fun x hx =>by cases hx⟩
 exact ⟨ha,fun hp =>⟨ha,by rw [hn,if_pos ⟨rfl,Int.le_refl 0,hp⟩]⟩⟩
theorem Al.em {k w o l t:Int} (h:Al c e e') (ht:0≤t∧t<c.tasks) (hk:k≠1∧k≠3∧k≠11∧k≠12):Al c e (e'.em k w t o l):=by
 obtain ⟨m,hm,hp⟩:=h.ev
 refine ⟨⟨h.i.d,h.i.l,h.i.cc,h.i.ok⟩,h.lv,h.nx,m++[⟨k,w,t,o,l⟩],?_,fun x hx =>?_⟩
 ·show e'.evs++[_]=_
  rw [hm,List.append_assoc]
 ·rcases List.mem_append.1 hx with hx | hx
  ·exact hp x hx
  ·rw [List.mem_singleton.1 hx]
   exact ⟨ht,hk⟩
theorem Al.pr {t:Int} {r:RecP} (h:Al c e e'):Al c e (e'.pr t r):=⟨⟨h.i.d,h.i.l,h.i.cc,h.i.ok⟩,h.lv,h.nx,h.ev⟩
theorem Al1.pr {t:Int} {r:RecP} (h:Al1 c e e'):Al1 c e (e'.pr t r):=⟨h.a.pr,h.n⟩
theorem aIZ (h:MI c e) {t v:Int} (ht:TOk c t) (hv:0≤v∧v<c.levels) (hr:ab2 (aau c) t<(e.m.cells.length:Int)):W0 c e (e.pt 2 (ab2 (aau c) t) v) t v:=by
 have e1:0≤ab2 (aau c) t:=by
  have:=agM h.d (t:=t)
  have e2:=aeq h.d (t:=t) (f:=1) (by omega)
  have e3:=ah5 h.d
  have e4:=h.d.h
  show 0≤adx (aau c) t 1
  have ht:0≤t∧t<c.tasks:=ht
  rw [e2,if_pos ht]
  omega
 refine ⟨h.pt (ayC h.d hv),?_,fun u hu =>?_,?_,rfl⟩
 ·show (e.pt _ _ _).gt _=v
  rw [aix,if_pos ⟨rfl,e1,hr⟩]
 ·show (e.pt _ _ _).gt _=e.gt _
  rw [aix,if_neg (fun h' =>hu (avy h.d ht h'.1))]
 ·rw [aix,if_neg]
  intro h'
  have h1:=agM h.d (t:=t)
  rw [← h'.1,afY] at h1
  omega
theorem Qt.an {t v k w o:Int} (h:Qt c e e') (hk:k=1∨k=3):An c e (e'.em k w t o v) t v:=by
 obtain ⟨m,hm,hp⟩:=h.ev
 exact ⟨⟨h.i.d,h.i.l,h.i.cc,h.i.ok⟩,h.lv,h.nx,m,k,w,o,hk,hp,by show e'.evs++[_]=_; rw [hm]⟩
def aIA (c:Cfg) (r:RunS):Prop:=match r.c with
 | .s2 _ =>TOk c r.id∧(0≤r.level∧r.level<c.levels)
 | .s3 s =>TOk c r.id∧ajO s
 | .s5 =>TOk c r.id
 | .j5 s =>arG c r.level s
 | .f4 s =>TOk c r.waiter∧axG s
 | .f6 =>TOk c r.waiter
 | _ =>True
def aHb (r:RunS):asG:=match r.c with
 | .s2 .l1 =>some (r.id,r.level,false)
 | .s2 _ =>some (r.id,r.level,true)
 | _ =>none
def aFl (c:Cfg) (e:EnvP) (p:asG) (o:Rs RunS×EnvP):Prop:=Tr c e o.2 p (match o.1 with
 | .go r =>aHb r
 | .fin _ _ =>none)∧o.1.Q (aIA c) (fun _ _ =>True)
theorem aFl.ite {p:asG} {P:Prop} [Decidable P] {a b:Rs RunS×EnvP} (h1:P→aFl c e p a) (h2:¬ P→aFl c e p b):aFl c e p (if P then a else b):=by
 split
 ·exact h1 ‹_›
 ·exact h2 ‹_›
theorem aq2 {r:RunS} (h:Rz c e e'):aFl c e none (aia r e'):=by
 unfold aia aFl
 by_cases h1:r.stack.length=1
 ·rw [if_pos h1]; exact ⟨.same _ h,trivial⟩
 ·rw [if_neg h1]; exact ⟨.same _ h,trivial⟩
theorem aJr (h:MI c e) {x:RecP} {i:Int} (hi:¬ (i<0∨((e.prog x).length:Int)≤i)) (ho:(acB (e.prog x) i).op=1):0≤(acB (e.prog x) i).b∧(acB (e.prog x) i).b<c.levels:=by
 have hm:acB (e.prog x) i∈e.prog x:=auf (α:=Ins) (d:=(dfR 3:TR 3)) (by omega)
 have hp:e.prog x∈c.progs∨e.prog x=[]:=by
  unfold EnvP.prog
  rw [h.cc]
  split
  ·exact .inr rfl
  ·exact .inl (auf (by omega))
 rcases hp with hp | hp
 ·rcases h.d.ps _ hp _ hm with k | k | k
  ·omega
  ·exact k.2.2.2
  ·omega
 ·rw [hp] at hm; cases hm
theorem aJg {t:Int} {r:RunS} (h:MI c e) (hl:(e.m.cells.length:Int)=aaX c) (ht:TOk c t) (hc:r.c=.next):aFl c e none (apz w e r t (e.rc t) (e.prog (e.rc t))):=by
 have hp:aHb r=none:=by unfold aHb; rw [hc]
 have hg:aIA c r:=by unfold aIA; rw [hc]; trivial
 have hs:∀ {e':EnvP},Rz c e e'→aFl c e none (.go r,e'):=fun h =>⟨by show Tr c e _ none (aHb r); rw [hp]; exact .same _ h,hg⟩
 have h0:0<(e.m.cells.length:Int):=by
  have:=ah5 h.d
  have h4:=h.d.h
  have h5:=h.d.t
  rw [hl]; unfold aaX; omega
 unfold apz
 rw [h.l]
 refine .ite (fun _ =>hs (.inl (Qt.fr h (atH h.d) (by omega)).pr)) fun _ =>?_
 refine .ite (fun _ =>⟨.same _ (.inl (.fr h (ahm h.d) (by omega))),trivial⟩) fun hi =>?_
 refine .ite (fun _ =>hs (.inl (Qt.refl h).pr)) fun _ =>?_
 refine .ite (fun ho =>?_) fun _ =>?_
 ·refine .ite (fun hn =>?_) fun hn =>?_
  ·have hn:TOk c (wi (e.gt 0)):=by unfold IsT at hn; rw [h.cc] at hn; exact hn
   have hb:=aJr h hi ho
   exact ⟨.al1 _ (((aFe h).2 h0).pr.pr) hn hb,hn,hb⟩
  ·exact ⟨by show Tr c e _ none (aHb r); rw [hp]; exact .al ((aFe h).1.pr.em ht (by omega)),hg⟩
 ·refine .ite (fun _ =>hs (.inl (Qt.refl h).pr)) fun _ =>?_
  exact ⟨.same _ (.inl (Qt.fr h (atH h.d) (aio _)).pr),trivial⟩
theorem aLC {r:RunS} (h:MI c e) (hl:(e.m.cells.length:Int)=aaX c) (hr:aIA c r):aFl c e (aHb r) (awb w e r):=by
 unfold awb
 refine .ite (fun _ =>⟨.drop _ (.inl (.refl h)),trivial⟩) fun ht =>?_
 replace ht:IsT e (aaC r.stack):=Classical.not_not.1 ht
 unfold IsT at ht
 rw [h.cc] at ht
 revert ht
 generalize aaC r.stack=t
 intro ht
 obtain ⟨stack,id,child,level,waiter,k⟩:=r
 cases k with
 | next =>exact aJg h hl ht rfl
 | s2 s =>
  obtain ⟨h1,h2⟩:=hr
  have hl2:=h.d.l
  simp only [aec,afR]
  have hi:¬ ¬ IsT e id:=by unfold IsT; rw [h.cc]; exact fun h =>h h1
  rw [if_neg hi,h.l]
  cases s with
  | l1 =>
   have h2:0≤level∧level<c.levels:=h2
   have e1:wu level=level:=agv (by omega)
   simp only [e1]
   refine ⟨.w0 _ _ (aIZ h h1 h2 ?_),h1,h2⟩
   have e2:=aeq h.d (t:=id) (f:=1) (by omega)
   show adx (aau c) id 1<_
   have h1:0≤id∧id<c.tasks:=h1
   rw [e2,if_pos h1,hl]
   unfold aaX
   omega
  | l2 =>exact ⟨.same _ (.inl (.fr h (ap0 h.d) (aio _))),h1,h2⟩
  | l3 =>exact ⟨.an _ _ ((Qt.fr h (ahm h.d) (by omega)).an (.inr rfl)),h1,trivial⟩
 | s3 s =>
  have:=aqX (w:=w) (v:=level) h hr.1 s hr.2
  simp only [aec]
  revert this
  rcases abO w level id e s with ⟨o,e'⟩
  intro this
  cases o with
  | go s =>exact ⟨.same _ (.inl this.1),hr.1,this.2⟩
  | fin c0 v0 =>
   simp only
   split
   ·exact ⟨.same _ (.inl this.1),hr.1⟩
   ·exact ⟨.same _ (.inl this.1),trivial⟩
 | s4 s =>
  have:=auC (w:=w) (v:=level) h s
  simp only [aec]
  revert this
  rcases aez w level e s with ⟨o,e'⟩
  intro this
  cases o with
  | go s =>exact ⟨.same _ (.inl this),trivial⟩
  | fin c0 v0 =>exact ⟨.same _ (.inl this),trivial⟩
 | s5 =>
  simp only [aec]
  split
  ·exact ⟨.same _ (.inl (ame h hr)),trivial⟩
  ·exact ⟨.same _ (.inl (ame h hr)),trivial⟩
 | j2 =>
  simp only [aec]
  rw [h.l]
  exact ⟨.same _ (.inl (.fr h (ahm h.d) (by omega))),trivial⟩
 | j3 =>
  simp only [aec]
  rw [h.l]
  exact .ite (fun _ =>⟨.same _ (.inl ((Qt.cas h (atJ h.d) (aio _)).em ht (by omega))),trivial⟩) fun _ =>⟨.same _ (.inl (.cas h (atJ h.d) (aio _))),trivial⟩
 | j4 =>exact ⟨.same _ (.inl (.lk h)),trivial⟩
 | j5 s =>
  have:=aIY (w:=w) (v:=level) h s hr
  simp only [aec]
  revert this
  rcases aeL w level e s with ⟨o,e'⟩
  intro this
  cases o with
  | go s =>exact ⟨.same _ this.1,this.2⟩
  | fin c0 v0 =>exact aq2 (this.1.em ht (by omega))
 | j6 =>
  simp only [aec]
  rw [h.l]
  exact ⟨.same _ (.inl (.fr h (ahm h.d) (by omega))),trivial⟩
 | j7 =>
  simp only [aec]
  rw [h.l]
  exact ⟨.same _ (.inl ((Qt.fr h (atH h.d) (by omega)).pr.em ht (by omega))),trivial⟩
 | f2 =>
  simp only [aec]
  rw [h.l]
  exact .ite (fun _ =>aq2 (.inl ((Qt.cas h (atJ h.d) (by omega)).em ht (by omega)))) fun _ =>⟨.same _ (.inl ((Qt.cas h (atJ h.d) (by omega)).em ht (by omega))),trivial⟩
 | f3 =>
  simp only [aec]
  refine .ite (fun hn =>?_) fun _ =>aq2 (.inl (.lk h))
  unfold IsT at hn
  rw [h.cc] at hn
  exact ⟨.same _ (.inl (.lk h)),hn,trivial⟩
 | f4 s =>
  have:=aIi (w:=w) h hr.1 s hr.2
  simp only [aec]
  revert this
  rcases adX w waiter e s with ⟨o,e'⟩
  intro this
  cases o with
  | go s =>exact ⟨.same _ (.inl this.1),hr.1,this.2⟩
  | fin c0 v0 =>
   simp only
   split
   ·exact ⟨.same _ (.inl this.1),hr.1⟩
   ·exact ⟨.same _ (.inl this.1),trivial⟩
 | f5 v s =>
  have:=auC (w:=w) (v:=v) h s
  simp only [aec]
  revert this
  rcases aez w v e s with ⟨o,e'⟩
  intro this
  cases o with
  | go s =>exact ⟨.same _ (.inl this),trivial⟩
  | fin c0 v0 =>exact aq2 (.inl this)
 | f6 =>
  simp only [aec]
  exact .ite (fun _ =>⟨.same _ (.inl (ame h hr)),trivial⟩) fun _ =>aq2 (.inl (ame h hr))
end
section
variable {c:Cfg} {e e':EnvP} {w:Int}
def aup (c:Cfg) (k:WorkS):Prop:=match k.c with
 | .t1 t s =>TOk c t∧auq c s
 | .t2 s =>aCT c s
 | .t3 s =>awa c s
 | .t5 s =>axE c s
 | .t6 =>TOk c k.x
 | .t7 s =>aIA c s
 | _ =>True
def aK9 (k:WorkS):asG:=match k.c with
 | .t7 s =>aHb s
 | _ =>none
def aun (c:Cfg) (e:EnvP) (p:asG) (o:WorkS×EnvP):Prop:=Tr c e o.2 p (aK9 o.1)∧aup c o.1
theorem aun.ite {p:asG} {P:Prop} [Decidable P] {a b:WorkS×EnvP} (h1:P→aun c e p a) (h2:¬ P→aun c e p b):aun c e p (if P then a else b):=by
 split
 ·exact h1 ‹_›
 ·exact h2 ‹_›
theorem aun.ite1 {p:asG} {P:Prop} [Decidable P] {a b:WorkS} {e':EnvP} (h1:P→aun c e p (a,e')) (h2:¬ P→aun c e p (b,e')):aun c e p (if P then a else b,e'):=by
 split
 ·exact h1 ‹_›
 ·exact h2 ‹_›
theorem aHG {a n:Int} (hn:1≤n∧n≤1000):0≤att a n∧att a n<n:=by
 have h1:Int.tmod a n<n ∧ -n<Int.tmod a n:=by
  constructor
  ·exact Int.tmod_lt_of_pos _ (by omega)
  ·have h2:Int.tmod (-a) n<n:=Int.tmod_lt_of_pos _ (by omega)
   rw [Int.neg_tmod] at h2
   omega
 unfold att
 rw [if_neg (by omega)]
 split
 ·rw [aaK (aao (by omega))]; omega
 ·omega
theorem awh (h:MI c e) {k:WorkS} (hk:aup c k):aup c { k with c:=abZ w e k }∧aK9 { k with c:=abZ w e k }=aK9 k:=by
 obtain ⟨a,b,d,x,g⟩:=k
 have ht:=h.d.t
 cases g with
 | top =>
  unfold abZ
  rw [h.cc]
  simp only
  split
  ·exact ⟨trivial,rfl⟩
  ·exact ⟨⟨aHG (by omega),trivial⟩,rfl⟩
 | _ =>exact ⟨hk,rfl⟩
theorem az3 {k:WorkS} (h:MI c e) (hl:(e.m.cells.length:Int)=aaX c) (hk:aup c k):aun c e (aK9 k) (abu w e k):=by
 have hB:=awh (w:=w) h hk
 unfold abu
 revert hB
 generalize abZ w e k=kc
 intro ⟨h1,h2⟩
 rw [← h2]
 cases kc with
 | top =>exact ⟨by rw [h2]; exact .same _ (.inl (.refl h)),hk⟩
 | t1 t s =>
  have:=aGn (w:=w) h h1.1 s h1.2
  simp only
  revert this
  rcases abh w t e s with ⟨o,e'⟩
  intro this
  cases o with
  | go s =>exact ⟨.same _ this.1,h1.1,this.2⟩
  | fin c0 v0 =>exact ⟨.same _ this.1,trivial⟩
 | t2 s =>
  have:=aI4 (w:=w) h s h1
  simp only
  revert this
  rcases akg w e s with ⟨o,e'⟩
  intro this
  cases o with
  | go s =>exact ⟨.same _ (.inl this.1),this.2⟩
  | fin c0 v0 =>exact .ite1 (fun hc =>⟨.same none (.inl this.1),trivial⟩) fun _ =>⟨.same none (.inl this.1),fun h =>(by cases h),trivial⟩
 | t3 s =>
  have:=aIk (w:=w) h s h1
  simp only
  revert this
  rcases aa8 w e s with ⟨o,e'⟩
  intro this
  cases o with
  | go s =>exact ⟨.same _ (.inl this.1),this.2⟩
  | fin c0 v0 =>
   refine .ite1 (fun hc =>⟨.same none (.inl this.1),this.2 hc⟩) fun _ =>.ite1 (fun _ =>⟨.same none (.inl this.1),trivial⟩) fun _ =>?_
   unfold apE
   split
   ·exact ⟨.same none (.inl this.1),trivial⟩
   ·exact ⟨.same none (.inl this.1),trivial⟩
 | t4 s =>
  have:=aHe (w:=w) h s
  simp only
  revert this
  rcases ajR w e s with ⟨o,e'⟩
  intro this
  cases o with
  | go s =>exact ⟨.same _ (.inl this),trivial⟩
  | fin c0 v0 =>exact .ite1 (fun hc =>⟨.same none (.inl this),trivial⟩) fun _ =>⟨.same none (.inl this),trivial⟩
 | t5 s =>
  have:=aGz (w:=k.victim) (v:=k.level) h s h1
  simp only
  rw [h.l]
  revert this
  rcases ahE (aav (aau c) k.victim k.level) e s with ⟨o,e'⟩
  intro this
  cases o with
  | go s =>exact ⟨.same _ (.inl this.1),this.2⟩
  | fin c0 v0 =>
   refine .ite (fun hc =>⟨.same none (.inl (this.1.em (this.2 hc) (by omega))),this.2 hc⟩) fun _ =>.ite (fun _ =>⟨.same none (.inl this.1),trivial⟩) fun _ =>⟨.same none (.inl this.1),trivial⟩
 | t6 =>
  have h1:TOk c k.x:=h1
  exact .ite1 (fun _ =>⟨.same none (.inl (ame h h1)),trivial⟩) fun _ =>⟨.same none (.inl (ame h h1)),trivial⟩
 | t7 s =>
  have:=aLC (w:=w) h hl h1
  simp only
  revert this
  rcases awb w e s with ⟨o,e'⟩
  intro this
  cases o with
  | go s =>exact this
  | fin c0 v0 =>exact ⟨this.1,trivial⟩
 | t8 s =>
  have:=aGG (w:=w) h s
  simp only
  revert this
  rcases adN w e s with ⟨o,e'⟩
  intro this
  cases o with
  | go s =>exact ⟨.same _ (.inl this),trivial⟩
  | fin c0 v0 =>exact ⟨.same _ (.inl this),trivial⟩
 | t9 s =>
  have:=aAN (w:=k.victim) (v:=k.level) (a:=k.victim) (b:=k.level) h s
  simp only
  rw [h.l]
  revert this
  rcases afw (aaI (aau c) k.victim) k.level (aav (aau c) k.victim k.level) e s with ⟨o,e'⟩
  intro this
  cases o with
  | go s =>exact ⟨.same _ (.inl this),trivial⟩
  | fin c0 v0 =>exact ⟨.same _ (.inl this),trivial⟩
def aCX (c:Cfg) (k:ClieS):Prop:=0≤k.i∧match k.c with
 | .n4 =>TOk c k.id
 | .n5 =>TOk c k.id
 | .n6 =>TOk c k.id
 | .a6 s =>TOk c k.id∧aqb c s
 | _ =>True
def aMv (subs:List Sub) (k:ClieS):asG:=match k.c with
 | .n4 =>some (k.id,(ac5 subs k.i).level,false)
 | .n5 =>some (k.id,(ac5 subs k.i).level,true)
 | .n6 =>some (k.id,(ac5 subs k.i).level,true)
 | .a6 _ =>some (k.id,(ac5 subs k.i).level,true)
 | _ =>none
def axI (c:Cfg) (e:EnvP) (p:asG) (o:Bool×ClieS×EnvP):Prop:=Tr c e o.2.2 p (aMv c.subs o.2.1)∧aCX c o.2.1
theorem axI.ite {p:asG} {P:Prop} [Decidable P] {a b:Bool×ClieS×EnvP} (h1:P→axI c e p a) (h2:¬ P→axI c e p b):axI c e p (if P then a else b):=by
 split
 ·exact h1 ‹_›
 ·exact h2 ‹_›
theorem aCk {k:ClieS} {p:asG} (hi:0≤k.i∧k.i≤1000) (h:Tr c e e' p none):axI c e p (aCl c.subs k e'):=by
 have e1:wi (k.i+1)=k.i+1:=aaK (aao (by omega))
 exact ⟨h,by show 0≤wi (k.i+1); omega,trivial⟩
theorem aCi {k:ClieS} {me:Int} (h:MI c e) (hl:(e.m.cells.length:Int)=aaX c) (hk:aCX c k):axI c e (aMv c.subs k) (ajJ c.subs me e k):=by
 have hsn:=h.d.sn
 unfold ajJ
 refine .ite (fun _ =>⟨.same _ (.inl (.refl h)),hk⟩) fun hi =>?_
 obtain ⟨i,id,acc,g⟩:=k
 obtain ⟨h0,h1⟩:=hk
 have h0:0≤i:=h0
 have hi:i<(c.subs.length:Int):=by have hi:¬ (c.subs.length:Int)≤i:=hi; omega
 have hs:(0≤(ac5 c.subs i).level∧(ac5 c.subs i).level<c.levels):=(h.d.ss _ (auf (α:=Sub) (d:=(dfR 4:TR 4)) ⟨h0,hi⟩)).2.1
 have hz:=TOk.zero h.d
 show axI c e _ (abf c.subs me e ⟨i,id,acc,g⟩ (ac5 c.subs i))
 cases g with
 | n1 =>
  simp only [abf]
  by_cases hh:e.hit 1 0=true
  ·rw [if_pos hh]; exact ⟨.same none (.inl (avw h)),h0,trivial⟩
  ·rw [if_neg hh]; exact ⟨.same none (.inl (avw h)),h0,trivial⟩
 | a1 =>
  simp only [abf]
  by_cases hh:e.hit 1 0=true
  ·rw [if_pos hh]; exact ⟨.same none (.inl (avw h)),h0,trivial⟩
  ·rw [if_neg hh]; exact ⟨.same none (.inl (avw h)),h0,trivial⟩
 | n2 =>
  simp only [abf]
  exact .ite (fun _ =>⟨.same none (.inl ((Qt.lk h).em hz (by omega))),h0,trivial⟩) fun _ =>⟨.same none (.inl (.lk h)),h0,trivial⟩
 | n3 =>
  simp only [abf]
  refine .ite (fun hn =>?_) fun _ =>⟨.al ((aFe h).1.em hz (by omega)),h0,trivial⟩
  have hn:TOk c (wi (e.gt 0)):=by unfold IsT at hn; rw [h.cc] at hn; exact hn
  have hp:0<(e.m.cells.length:Int):=by
   have:=ah5 h.d
   have h4:=h.d.h
   have h5:=h.d.t
   rw [hl]; unfold aaX; omega
  exact ⟨.al1 _ ((aFe h).2 hp).pr hn hs,h0,hn⟩
 | n4 =>
  have h1:TOk c id:=h1
  have hl2:=h.d.l
  have e1:wu (ac5 c.subs i).level=(ac5 c.subs i).level:=agv (by omega)
  simp only [abf]
  rw [h.l,e1]
  refine ⟨.w0 _ _ (aIZ h h1 hs ?_),h0,h1⟩
  have e2:=aeq h.d (t:=id) (f:=1) (by omega)
  show adx (aau c) id 1<_
  have h1:0≤id∧id<c.tasks:=h1
  rw [e2,if_pos h1,hl]
  unfold aaX
  omega
 | n5 =>
  simp only [abf]
  rw [h.l]
  exact ⟨.same _ (.inl (.fr h (ap0 h.d) (aio _))),h0,h1⟩
 | n6 =>
  have h1:TOk c id:=h1
  have:=ayJ (d:=(ac5 c.subs i).deadline) h h1 .l1 trivial
  simp only [abf]
  revert this
  rcases acf (ac5 c.subs i).deadline id e .l1 with ⟨o,e'⟩
  intro this
  cases o with
  | go s =>exact ⟨.same _ (.inl this.1),h0,h1,this.2⟩
  | fin c0 v0 =>exact .ite (fun _ =>⟨.an _ _ (this.1.an (.inl rfl)),h0,trivial⟩) fun _ =>⟨.drop _ (.inl this.1),h0,trivial⟩
 | a6 s =>
  have h2:TOk c id:=h1.1
  have:=ayJ (d:=(ac5 c.subs i).deadline) h h2 s h1.2
  simp only [abf]
  revert this
  rcases acf (ac5 c.subs i).deadline id e s with ⟨o,e'⟩
  intro this
  cases o with
  | go s =>exact ⟨.same _ (.inl this.1),h0,h2,this.2⟩
  | fin c0 v0 =>exact .ite (fun _ =>⟨.an _ _ (this.1.an (.inl rfl)),h0,trivial⟩) fun _ =>⟨.drop _ (.inl this.1),h0,trivial⟩
 | n7 =>
  simp only [abf]
  rw [h.l]
  exact ⟨.same none (.inl (.fr h (ahm h.d) (by omega))),h0,trivial⟩
 | n8 =>
  simp only [abf]
  exact .ite (fun _ =>⟨.same none (.inl (aBQ h)),h0,trivial⟩) fun _ =>aCk ⟨h0,by show i≤1000; omega⟩ (.same none (.inl (aBQ h)))
 | n9 =>
  have:=auC (w:=me) (v:=(ac5 c.subs i).level) h (.l1 0)
  simp only [abf]
  revert this
  rcases aez me (ac5 c.subs i).level e (.l1 0) with ⟨o,e'⟩
  intro this
  cases o with
  | go s =>exact ⟨.same none (.inl this),h0,trivial⟩
  | fin c0 v0 =>exact aCk ⟨h0,by show i≤1000; omega⟩ (.same none (.inl this))
 | a9 t =>
  have:=auC (w:=me) (v:=(ac5 c.subs i).level) h t
  simp only [abf]
  revert this
  rcases aez me (ac5 c.subs i).level e t with ⟨o,e'⟩
  intro this
  cases o with
  | go s =>exact ⟨.same none (.inl this),h0,trivial⟩
  | fin c0 v0 =>exact aCk ⟨h0,by show i≤1000; omega⟩ (.same none (.inl this))
end
theorem MI.ex {c:Cfg} {e:EnvP} (h:MI c e) {k:ClkV}:MI c { e with k:=k }:=⟨h.d,h.l,h.cc,h.ok⟩
theorem avE {c:Cfg} {a:Int}:(aor c).gt a=0:=by
 show (aor c).m.gt a=0
 unfold MemV.gt
 split
 ·rename_i h
  exact List.eq_of_mem_replicate (auf (α:=Int) (d:=(dfR 0:TR 0)) h)
 ·rfl
theorem aJ6 {c:Cfg} (h:DecOk c):MI c (aor c):=by
 refine ⟨h,rfl,rfl,fun a =>?_⟩
 rw [avE]
 have h1:=h.t
 have h2:=h.l
 have h3:=(aty h).2
 exact ⟨Int.le_refl 0,fun _ =>h3,fun _ =>by omega,fun _ =>by omega⟩
end
end Go.Proofs.YtidhehdanppcoaaGreat
