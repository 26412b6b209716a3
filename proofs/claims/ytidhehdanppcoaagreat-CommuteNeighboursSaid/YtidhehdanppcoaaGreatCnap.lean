/- What a step depends on: Run,a worker,the client; whose records it touches. Two independent steps,in either order. Runs of steps of which some commute: the canonical order. No program occurs here. An engine's machines as a system of steps that commute. Records whose kids are only read; what is owned may be held to be read. A copy of an environment in the evaluator's form. Env.Copy: the records' kids of the one that is copied are only read from then on. Walks: runner.Stack. runner.Stack in the evaluator's form. What the law calls,in the evaluator's form. -/
import Derived.Test.YtidhehdanppcoaaGreatCnam
import Derived.Test.YtidhehdanppcoaaGreatCnao
import Derived.Test.YtidhehdanppcoaaGreatCnaa
import Derived.Test.YtidhehdanppcoaaGreatCnai
import Derived.Test.YtidhehdanppcoaaGreatCnak
import Derived.Test.YtidhehdanppcoaaGreatRows
import Derived.WalkKit
set_option linter.all false
namespace Go.Proofs.YtidhehdanppcoaaGreat
section
open Go Go.RowKit
set_option maxRecDepth 100000
variable [Tb]
def Own (c:Cfg) (e:EnvP) (v:Vw) (D:Dl) (t:Int):Prop:=TOk c t∧(Hd v t∨(Stt c e t=1∧D.ad=some (3,aaP (aau c) t))∨(D.ad=some (6,0)∧t=wi (e.gt 0)))
structure Ow (c:Cfg) (e:EnvP) (w:Int) (v:Vw) (D:Dl):Prop where
 rd:∀ t∈D.rd,Own c e v D t
 rs:∀ p∈D.rs,p.1∈D.rd
 es:∀ x∈D.es,x.worker=w
 k:aFn e D
section
variable {c:Cfg} {e f:EnvP} {X Y σ:Type} {S:EnvP→X×EnvP} {T:EnvP→Y×EnvP} {P Q:Dl→Prop} {w k a t:Int} {v:Vw}
theorem Loc.mono (h:Loc P S e) (hp:∀ D,P D→Q D):Loc Q S e:=by
 obtain ⟨s,D,h1,h2,h3⟩:=h
 exact ⟨s,D,h1,hp D h2,h3⟩
theorem Loc.lf (h:Loc (Lf e w) S e):Loc (Ow c e w v) S e:=h.mono fun D h =>⟨fun t k =>(by rw [h.rd] at k; cases k),fun p k =>(by rw [h.rs] at k; cases k),h.es,h.k⟩
theorem Ag.refl {D:Dl}:Ag D e e:=⟨.refl,fun _ _ _ =>rfl,fun _ _ =>rfl⟩
theorem Loc.of (D:Dl) (s:X) (hp:P D) (h:∀ f,Ag D e f→S f=(s,ap D f)):Loc P S e:=⟨s,D,h e .refl,hp,h⟩
theorem Loc.mapP {S:EnvP→X×EnvP} (h:Loc P S e) (y:X→Y) (hT:∀ f,Bs e f→T f=(y (S f).1,(S f).2)):Loc P T e:=by
 obtain ⟨s,D,h1,h2,h3⟩:=h
 exact ⟨y s,D,by rw [hT e .refl,h1],h2,fun f hf =>by rw [hT f hf.b,h3 f hf]⟩
theorem Loc.gfP {S:EnvP→Rs σ×EnvP} {A:σ→Y} {B:Int→Int→Y} (h:Loc P S e) (h1:∀ f,Bs e f→∀ s e',S f=(.go s,e')→T f=(A s,e')) (h2:∀ f,Bs e f→∀ c x e',S f=(.fin c x,e')→T f=(B c x,e')):Loc P T e :=
 .mapP h (fun r =>match r with
  | .go s =>A s
  | .fin c x =>B c x) fun f b =>by
  generalize hS:S f=p
  obtain ⟨r,e'⟩:=p
  cases r with
  | go s =>exact h1 f b s e' hS
  | fin c x =>exact h2 f b c x e' hS
theorem anB (h:MI c e) (ht:TOk c t) (y:Bool→X):Loc (Ow c e w v) (fun e =>(y (adk t e),aeU w t e)) e:=by
 have hb:∀ {D:Dl} {f:EnvP},D.ad=some (3,aaP e.l t)→Ag D e f→adk t f=adk t e:=fun {D f} hd b =>by
  unfold adk EnvP.hit; rw [b.b.l]; exact b.b.hit (b.g _ _ hd)
 by_cases hc:adk t e=true
 ·have hs:Stt c e t=1:=by
   have:=(avC (e:=e) (a:=aaP e.l t) (o:=1) hc).1
   rw [h.l] at this; exact this
  by_cases hr:(e.rc t).started=true
  ·refine .of ⟨some (3,aaP e.l t),if e.m.gt (aaP e.l t)=1 then 2 else e.m.gt (aaP e.l t),[t],[],[⟨9,w,t,0,0⟩]⟩ (y true) ⟨fun u hu =>?_,fun p hp =>(by cases hp),ah8 rfl,fun _ _ q =>.inr (by cases q; decide)⟩ fun f b =>?_
   ·rw [List.mem_singleton.1 hu]; exact ⟨ht,.inr (.inl ⟨hs,by rw [h.l]⟩)⟩
   ·have hbf:=(hb rfl b).trans hc
    show (y (adk t f),aeU w t f)=_
    rw [hbf]
    unfold aeU
    rw [if_pos hbf,b.q t (List.mem_singleton.2 rfl),if_pos hr,b.b.l]
    exact congrArg (Prod.mk (y true)) (ay9 (es:=[⟨9,w,t,0,0⟩]) (b.g _ _ rfl))
  ·refine .of ⟨some (3,aaP e.l t),if e.m.gt (aaP e.l t)=1 then 2 else e.m.gt (aaP e.l t),[t],[(t,{ e.rc t with started:=true })],[⟨5,w,t,0,0⟩]⟩ (y true) ⟨fun u hu =>?_,fun p hp =>?_,ah8 rfl,fun _ _ q =>.inr (by cases q; decide)⟩ fun f b =>?_
   ·rw [List.mem_singleton.1 hu]; exact ⟨ht,.inr (.inl ⟨hs,by rw [h.l]⟩)⟩
   ·rw [List.mem_singleton.1 hp]; exact List.mem_singleton.2 rfl
   ·have hbf:=(hb rfl b).trans hc
    show (y (adk t f),aeU w t f)=_
    rw [hbf]
    unfold aeU
    rw [if_pos hbf,b.q t (List.mem_singleton.2 rfl),if_neg hr,b.b.l]
    unfold EnvP.cas MemV.cas
    rw [b.g _ _ rfl]
    rfl
 ·refine .of ⟨some (3,aaP e.l t),if e.m.gt (aaP e.l t)=1 then 2 else e.m.gt (aaP e.l t),[],[],[⟨15,w,t,0,0⟩]⟩ (y false) ⟨fun u hu =>(by cases hu),fun p hp =>(by cases hp),ah8 rfl,fun _ _ q =>.inr (by cases q; decide)⟩ fun f b =>?_
  have hbf:adk t f=false:=(hb rfl b).trans (Bool.eq_false_iff.2 hc)
  show (y (adk t f),aeU w t f)=_
  rw [hbf]
  unfold aeU
  rw [if_neg (by rw [hbf]; exact Bool.false_ne_true),b.b.l]
  exact congrArg (Prod.mk (y false)) (ay9 (es:=[⟨15,w,t,0,0⟩]) (b.g _ _ rfl))
theorem aLG (b:Bs e f) {x:RecP}:f.prog x=e.prog x:=by unfold EnvP.prog; rw [b.c]
theorem aEi {r:RunS} (ht:TOk c t) (hd:Hd v t) (hcc:e.c=c):Loc (Ow c e w v) (fun e =>apz w e r t (e.rc t) (e.prog (e.rc t))) e:=by
 have ow:∀ {ad:Option (Int×Int)} {x:Int} {rs:List (Int×RecP)} {es:List Ev},(∀ k a,ad=some (k,a)→2≤k)→(∀ p∈rs,p.1=t)→(∀ x∈es,x.worker=w)→Ow c e w v ⟨ad,x,[t],rs,es⟩:=fun h0 h1 h2 =>⟨fun u hu =>by rw [List.mem_singleton.1 hu]; exact ⟨ht,.inl hd⟩,fun p hp =>List.mem_singleton.2 (h1 p hp),h2,fun k a q =>.inr (h0 k a q)⟩
 have r1:∀ {x:RecP},∀ p∈[(t,x)],p.1=t:=fun p hp =>by rw [List.mem_singleton.1 hp]
 have r0:∀ p∈([]:List (Int×RecP)),p.1=t:=fun p hp =>by cases hp
 have k2:∀ {b:Int×Int},2≤b.1→∀ k a,some b=some (k,a)→2≤k:=fun h k a q =>by cases q; exact h
 have k0:∀ k a,(none:Option (Int×Int))=some (k,a)→2≤k:=fun k a q =>by cases q
 have pre:∀ {D:Dl} {s:Rs RunS},t∈D.rd→(∀ f,Ag D e f→apz w f r t (e.rc t) (e.prog (e.rc t))=(s,ap D f))→∀ f,Ag D e f→apz w f r t (f.rc t) (f.prog (f.rc t))=(s,ap D f):=fun hm h f b =>by
  rw [aLG b.b,b.q t hm]; exact h f b
 generalize hx:e.rc t=x at pre
 generalize hp:e.prog x=p at pre
 have t1:t∈[t]:=List.mem_singleton.2 rfl
 unfold apz at pre
 by_cases h1:x.waiting ≠ -1
 ·exact .of ⟨some (2,aeS e.l t),0,[t],[(t,{ x with waiting := -1 })],[]⟩ (.go r) (ow (k2 (by show (2:Int)≤_; first | exact Int.le_refl _ | decide)) r1 aj3) (pre t1 fun f b =>by rw [if_pos h1,b.b.l]; rfl)
 by_cases h2:x.pc<0∨(p.length:Int)≤x.pc
 ·exact .of ⟨some (2,aaP e.l t),4,[t],[],[]⟩ (.go { r with c:=.f2 }) (ow (k2 (by show (2:Int)≤_; first | exact Int.le_refl _ | decide)) r0 aj3) (pre t1 fun f b =>by rw [if_neg h1,if_pos h2,b.b.l]; rfl)
 by_cases h3:(acB p x.pc).op=0
 ·exact .of ⟨none,0,[t],[(t,atX x (acB p x.pc))],[]⟩ (.go r) (ow k0 r1 aj3) (pre t1 fun f b =>by rw [if_neg h1,if_neg h2,if_pos h3]; rfl)
 by_cases h4:(acB p x.pc).op=1
 ·have al:∀ {D:Dl} {f:EnvP},D.ad=some (6,0)→Ag D e f→f.m.gt 0=e.m.gt 0:=fun hd b =>b.g _ _ hd
  by_cases h5:IsT e (wi (e.gt 0))
  ·refine .of ⟨some (6,0),wu (e.m.gt 0+1),[t,wi (e.gt 0)],[(t,{ x with pc:=wi (x.pc+1),kids:=x.kids++[wi (e.gt 0)] }),(wi (e.gt 0),ayz (acB p x.pc).a t)],[]⟩ (.go { r with id:=wi (e.gt 0),level:=(acB p x.pc).b,c:=.s2 .l1 }) ⟨fun u hu =>?_,fun q hq =>?_,aj3,fun _ _ q =>.inr (by cases q; decide)⟩ (pre (List.mem_cons_self ..) fun f b =>?_)
   ·rcases List.mem_cons.1 hu with k | k
    ·rw [k]; exact ⟨ht,.inl hd⟩
    ·rw [List.mem_singleton.1 k]
     refine ⟨?_,.inr (.inr ⟨rfl,rfl⟩)⟩
     unfold IsT at h5; rw [hcc] at h5; exact h5
   ·rcases List.mem_cons.1 hq with k | k
    ·rw [k]; exact List.mem_cons_self ..
    ·rw [List.mem_singleton.1 k]; exact List.mem_cons_of_mem _ (List.mem_singleton.2 rfl)
   ·have g:=al rfl b
    have g2:wi (f.gt 0)=wi (e.gt 0):=congrArg wi g
    rw [if_neg h1,if_neg h2,if_neg h3,if_pos h4,g2,if_pos ((ank b.b).2 h5)]
    unfold ab6
    rw [show f.gt 0=e.m.gt 0 from g]
    rfl
  ·exact .of ⟨some (6,0),wu (e.m.gt 0+1),[t],[(t,{ x with pc:=wi (x.pc+1),kids:=x.kids++[-1] })],[⟨4,w,t,0,0⟩]⟩ (.go r) (ow (k2 (by show (2:Int)≤_; first | exact Int.le_refl _ | decide)) r1 (ah8 rfl)) (pre t1 fun f b =>by
    have g:=al rfl b
    have g2:wi (f.gt 0)=wi (e.gt 0):=congrArg wi g
    rw [if_neg h1,if_neg h2,if_neg h3,if_pos h4,g2,if_neg (fun k =>h5 ((ank b.b).1 k))]
    unfold ab6
    rw [show f.gt 0=e.m.gt 0 from g]
    rfl)
 by_cases h6:(acB p x.pc).a<0∨(x.kids.length:Int)≤(acB p x.pc).a∨acg x.kids (acB p x.pc).a=-1
 ·exact .of ⟨none,0,[t],[(t,{ x with pc:=wi (x.pc+1) })],[]⟩ (.go r) (ow k0 r1 aj3) (pre t1 fun f b =>by rw [if_neg h1,if_neg h2,if_neg h3,if_neg h4,if_pos h6]; rfl)
 ·exact .of ⟨some (2,aeS e.l t),wu (wi (acg x.kids (acB p x.pc).a+1)),[t],[(t,{ x with pc:=wi (x.pc+1),waiting:=acg x.kids (acB p x.pc).a })],[]⟩ (.go { r with child:=acg x.kids (acB p x.pc).a,c:=.j2 }) (ow (k2 (by show (2:Int)≤_; first | exact Int.le_refl _ | decide)) r1 aj3) (pre t1 fun f b =>by rw [if_neg h1,if_neg h2,if_neg h3,if_neg h4,if_neg h6,b.b.l]; rfl)
def aBz (r:RunS):Rs RunS:=if r.stack.length=1 then .fin 0 0 else .go { r with stack:=r.stack.dropLast,c:=.next }
theorem aGV {r:RunS} (h:MI c e) (hr:aIA c r) (hs:r.stack≠[]):Loc (Ow c e w (vwR r)) (fun e =>awb w e r) e:=by
 by_cases h0:IsT e (aaC r.stack)
 ·refine .mapP (S:=fun e =>aec w e r (aaC r.stack)) ?_ id fun f b =>if_neg (fun k =>k ((ank b).2 h0))
  have ht:TOk c (aaC r.stack):=by unfold IsT at h0; rw [h.cc] at h0; exact h0
  have hin:=awj hs
  obtain ⟨stack,id,child,level,waiter,k⟩:=r
  replace hin:aaC stack∈stack:=hin
  replace ht:TOk c (aaC stack):=ht
  show Loc _ (fun e =>aec w e _ (aaC stack)) e
  generalize hT:aaC stack=t at ht hin
  cases k with
  | next =>exact aEi ht (.inl hin) h.cc
  | s2 s =>
   refine .lf (.gfE (A:=fun s =>.go ⟨stack,id,child,level,waiter,.s2 s⟩) (B:=fun _ _ =>.go ⟨stack,id,child,level,waiter,.s3 .new⟩) (E:=fun _ _ =>[⟨3,w,id,t,level⟩]) (awC (t:=id) (x:=level) s) (fun _ _ =>ah8 rfl) (fun f b s e' h =>by simp only [aec,h]) fun f b c x e' h =>?_)
   simp only [aec,h]; rfl
  | s3 s =>exact .lf (.gf (A:=fun s =>.go ⟨stack,id,child,level,waiter,.s3 s⟩) (B:=fun c _ =>.go ⟨stack,id,child,level,waiter,if c=3 then .s5 else .s4 (.l1 0)⟩) (akD (v:=level) (x:=id) s) (fun f b s e' h =>by simp only [aec,h]) fun f b c x e' h =>by simp only [aec,h])
  | s4 s =>exact .lf (.gf (A:=fun s =>.go ⟨stack,id,child,level,waiter,.s4 s⟩) (B:=fun _ _ =>.go ⟨stack,id,child,level,waiter,.next⟩) (amo (v:=level) s) (fun f b s e' h =>by simp only [aec,h]) fun f b c x e' h =>by simp only [aec,h])
  | s5 =>exact .mapP (anB h hr fun b =>Rs.go (if b=true then (⟨stack++[id],id,child,level,waiter,.next⟩:RunS) else ⟨stack,id,child,level,waiter,.next⟩)) (fun x =>x) fun f b =>rfl
  | j2 =>exact .lf (.pt rfl fun f b g =>by simp only [aec,b.l])
  | j3 =>
   by_cases hh:e.hit (ac4 e.l child) 0=true
   ·exact .lf (.cs1 (if_pos hh) rfl fun f b g =>by simp only [aec,EnvP.hit,b.l,b.hit g]; exact if_pos hh)
   ·exact .lf (.cs (if_neg hh) fun f b g =>by simp only [aec,EnvP.hit,b.l,b.hit g]; exact if_neg hh)
  | j4 =>exact .lf (.ld rfl fun f b g =>by simp only [aec,EnvP.gt,b.l,g])
  | j5 s =>
   refine .lf (.gfE (A:=fun s =>.go ⟨stack,id,child,level,waiter,.j5 s⟩) (B:=fun _ _ =>aBz ⟨stack,id,child,level,waiter,.j5 s⟩) (E:=fun _ _ =>[⟨7,w,t,0,level⟩]) (aDa (v:=level) s) (fun _ _ =>ah8 rfl) (fun f b s e' h =>by simp only [aec,h]) fun f b c x e' h =>?_)
   simp only [aec,h]; rfl
  | j6 =>exact .lf (.pt rfl fun f b g =>by simp only [aec,b.l])
  | j7 =>
   exact .of ⟨some (2,aeS e.l t),0,[t],[(t,{ e.rc t with waiting := -1 })],[⟨8,w,t,child,0⟩]⟩ (.go ⟨stack,id,child,level,waiter,.next⟩) ⟨fun u hu =>by rw [List.mem_singleton.1 hu]; exact ⟨ht,.inl (.inl hin)⟩,fun p hp =>by rw [List.mem_singleton.1 hp]; exact List.mem_singleton.2 rfl,ah8 rfl,fun _ _ q =>.inr (by cases q; decide)⟩ fun f b =>by
    simp only [aec,b.b.l,b.q t (List.mem_singleton.2 rfl)]; rfl
  | f2 =>
   by_cases hh:e.hit (ac4 e.l t) 0=true
   ·exact .lf (.cs1 (if_pos hh) rfl fun f b g =>by simp only [aec,EnvP.hit,b.l,b.hit g]; exact if_pos hh)
   ·exact .lf (.cs1 (if_neg hh) rfl fun f b g =>by simp only [aec,EnvP.hit,b.l,b.hit g]; exact if_neg hh)
  | f3 =>
   by_cases hh:IsT e (wi (wi (e.gt (ac4 e.l t))-1))
   ·exact .lf (.ld (if_pos hh) fun f b g =>by
     simp only [aec,EnvP.gt,b.l,g]
     exact if_pos ((ank b).2 hh))
   ·exact .lf (.ld (if_neg hh) fun f b g =>by
     simp only [aec,EnvP.gt,b.l,g]
     exact if_neg (fun k =>hh ((ank b).1 k)))
  | f4 s =>exact .lf (.gf (A:=fun s =>.go ⟨stack,id,child,level,waiter,.f4 s⟩) (B:=fun c v =>.go ⟨stack,id,child,level,waiter,if c=3 then .f6 else .f5 v (.l1 0)⟩) (aB1 (t:=waiter) s) (fun f b s e' h =>by simp only [aec,h]) fun f b c x e' h =>by simp only [aec,h])
  | f5 v0 s =>exact .lf (.gf (A:=fun s =>.go ⟨stack,id,child,level,waiter,.f5 v0 s⟩) (B:=fun _ _ =>aBz ⟨stack,id,child,level,waiter,.f5 v0 s⟩) (amo (v:=v0) s) (fun f b s e' h =>by simp only [aec,h]) fun f b c x e' h =>by simp only [aec,h]; rfl)
  | f6 =>exact .mapP (anB h hr fun b =>if b=true then Rs.go (⟨stack.dropLast++[waiter],id,child,level,waiter,.next⟩:RunS) else aBz ⟨stack,id,child,level,waiter,.f6⟩) (fun x =>x) fun f b =>(by
    simp only [aec]
    by_cases hb:adk waiter f=true
    ·rw [if_pos hb,if_pos hb]
    ·rw [if_neg hb,if_neg hb]; rfl)
 ·exact .lf (.a0 (if_pos h0) fun f b =>if_pos (fun k =>h0 ((ank b).1 k)))
theorem aGc (b:Bs e f) {k:WorkS}:abZ w f k=abZ w e k:=by unfold abZ; rw [b.c]
theorem aC8 {k:WorkS} (h:MI c e) (hk:aup c k) (hh:av8 k):Loc (Ow c e w (vwW k)) (fun e =>abu w e k) e:=by
 have hB:=(awh (w:=w) h hk).1
 have hB2:=az6 (w:=w) (e:=e) hh
 have hb:∀ f,Bs e f→abZ w f k=abZ w e k:=fun f b =>aGc b
 revert hB hB2 hb
 generalize abZ w e k=kc
 intro h1 ⟨h2,h3⟩ hb
 rw [← h3]
 cases kc with
 | top =>exact .lf (.a0 (s:=k) (by unfold abu; rw [hb e .refl]) fun f b =>by unfold abu; rw [hb f b])
 | t1 t s =>exact .lf (.gf (A:=fun s =>{ k with c:=.t1 t s }) (B:=fun _ _ =>{ k with cursor:=wi (k.cursor+1),c:=.t2 azo }) (aAi (t:=t) s) (fun f b s e' h =>by simp only [abu,hb f b,h]) fun f b c x e' h =>by simp only [abu,hb f b,h])
 | t2 s =>
  cases s with
  | pop s =>exact .lf (.gf (A:=fun s =>{ k with c:=.t2 (.pop s) }) (B:=fun c x =>if c=2 then { k with c:=.t3 aB8 } else { k with c:=.t2 (.claim x) }) (aEx s) (fun f b s e' h =>by simp only [abu,hb f b,akg,h]) fun f b c x e' h =>(by
    simp only [abu,hb f b,akg,h]
    by_cases hc:c=2
    ·simp only [if_pos hc]; rfl
    ·simp only [if_neg hc]))
  | claim t =>exact .mapP (anB h h1 fun b =>if b=true then ({ k with x:=t,c:=.t7 (aGW t) }:WorkS) else { k with c:=.t2 (.pop (.l1 0)) }) (fun x =>x) fun f b =>(by
    simp only [abu,hb f b,akg]
    by_cases hc:adk t f=true
    ·simp only [if_pos hc]; rfl
    ·simp only [if_neg hc])
 | t3 s =>
  have hi:∀ f,Bs e f→apE f=apE e:=fun f b =>by unfold apE; rw [b.c]
  have hi2:∀ f c x e',Bs e f→aa8 w f s=(.fin c x,e')→apE e'=apE e:=fun f c x e' b h =>by
   obtain ⟨s1,D,_,_,hD⟩:=aro (w:=w) (e:=e) s
   unfold apE
   have:e'.c=f.c:=by
    have hq:=(aro (w:=w) (e:=f) s)
    obtain ⟨s2,D2,h2,_,_⟩:=hq
    have h2:aa8 w f s=(s2,ap D2 f):=h2
    rw [h] at h2
    have:=(Prod.mk.inj h2).2
    rw [this]; rfl
   rw [this,b.c]
  exact .lf (.gf (A:=fun s =>{ k with c:=.t3 s }) (B:=fun c x =>if c=1 then { k with x:=x,c:=.t6 } else if c=0 then { k with c:=.t2 azo } else { k with c:=apE e }) (aro s) (fun f b s e' h =>by simp only [abu,hb f b,h]) fun f b c x e' h =>by simp only [abu,hb f b,h,hi2 f c x e' b h])
 | t4 s =>exact .lf (.gf (A:=fun s =>{ k with c:=.t4 s }) (B:=fun c x =>if c=2 then { k with c:=.t8 .l1 } else { k with victim:=wi (Int.tdiv x 64),level:=Int.tmod x 64,c:=.t5 .l1 }) (aAY s) (fun f b s e' h =>by simp only [abu,hb f b,h]) fun f b c x e' h =>by simp only [abu,hb f b,h])
 | t5 s =>
  refine .lf (.gfE (A:=fun s =>{ k with c:=.t5 s }) (B:=fun c x =>if c=1 then { k with x:=x,c:=.t6 } else if c=2 then { k with c:=.t9 .l1 } else { k with c:=.top }) (E:=fun c x =>if c=1 then [⟨14,w,x,k.victim,k.level⟩] else []) (aAn (q:=aav e.l k.victim k.level) s) (fun c x =>?_) (fun f b s e' h =>by simp only [abu,hb f b,b.l,h]) fun f b c x e' h =>?_)
  ·split
   ·exact ah8 rfl
   ·exact aj3
  ·simp only [abu,hb f b,b.l,h]
   by_cases hc:c=1
   ·rw [if_pos hc,if_pos hc,if_pos hc]; rfl
   ·rw [if_neg hc,if_neg hc,if_neg hc]
    by_cases hc2:c=2
    ·rw [if_pos hc2,if_pos hc2]; rfl
    ·rw [if_neg hc2,if_neg hc2]; rfl
 | t6 =>exact .mapP (anB h h1 fun b =>if b=true then ({ k with c:=.t7 (aGW k.x) }:WorkS) else { k with c:=.top }) (fun x =>x) fun f b =>(by simp only [abu,hb f b])
 | t7 s =>exact .gfP (A:=fun s =>{ k with c:=.t7 s }) (B:=fun _ _ =>{ k with c:=.top }) (aGV h h1 h2) (fun f b s e' h =>by simp only [abu,hb f b,h]) fun f b c x e' h =>by simp only [abu,hb f b,h]
 | t8 s =>exact .lf (.gf (A:=fun s =>{ k with c:=.t8 s }) (B:=fun _ _ =>{ k with c:=.top }) (aAA s) (fun f b s e' h =>by simp only [abu,hb f b,h]) fun f b c x e' h =>by simp only [abu,hb f b,h])
 | t9 s =>exact .lf (.gf (A:=fun s =>{ k with c:=.t9 s }) (B:=fun _ _ =>{ k with c:=.top }) (auW (x:=aaI e.l k.victim) (y:=k.level) (q:=aav e.l k.victim k.level) s) (fun f b s e' h =>by simp only [abu,hb f b,b.l,h]) fun f b c x e' h =>by simp only [abu,hb f b,b.l,h])
noncomputable def aE5 (subs:List Sub) (me:Int) (e:EnvP) (k:ClieS):(Bool×ClieS)×EnvP:=(((ajJ subs me e k).1,(ajJ subs me e k).2.1),(ajJ subs me e k).2.2)
noncomputable def agO (subs:List Sub) (me:Int) (e:EnvP) (k:ClieS) (s:Sub):(Bool×ClieS)×EnvP:=(((abf subs me e k s).1,(abf subs me e k s).2.1),(abf subs me e k s).2.2)
theorem aE4 {k:ClieS} {me:Int} (hcc:e.c=c):Loc (Ow c e me (vwC k)) (fun e =>aE5 c.subs me e k) e:=by
 by_cases hi:(c.subs.length:Int)≤k.i
 ·exact .lf (.a0 (s:=(true,k)) (by unfold aE5 ajJ; rw [if_pos hi]) fun f b =>by unfold aE5 ajJ; rw [if_pos hi])
 refine .mapP (S:=fun e =>agO c.subs me e k (ac5 c.subs k.i)) ?_ (fun x =>x) fun f b =>by unfold aE5 agO ajJ; rw [if_neg hi]
 obtain ⟨i,id,acc,g⟩:=k
 generalize ac5 c.subs _=s
 cases g with
 | n1 =>exact .lf (.cs rfl fun f b g =>by simp only [agO,abf,arP,EnvP.hit,b.hit g])
 | a1 =>exact .lf (.cs rfl fun f b g =>by simp only [agO,abf,arP,EnvP.hit,b.hit g])
 | n2 =>
  by_cases h1:e.c.heap≤wi (e.gt 2)
  ·exact .lf (.ld1 (s:=(false,⟨i,id,acc,.n8⟩)) (k':=2) (w':=me) (t':=0) (o':=i) (l':=1) (by simp only [agO,abf]; rw [if_pos h1]) rfl fun f b g =>by simp only [agO,abf,EnvP.gt,b.c,g]; rw [if_pos h1])
  ·exact .lf (.ld (s:=(false,⟨i,id,acc,.n3⟩)) (by simp only [agO,abf]; rw [if_neg h1]) fun f b g =>by simp only [agO,abf,EnvP.gt,b.c,g]; rw [if_neg h1])
 | n3 =>
  by_cases h1:IsT e (wi (e.gt 0))
  ·refine .of ⟨some (6,0),wu (e.m.gt 0+1),[wi (e.gt 0)],[(wi (e.gt 0),ayz s.prog (-1))],[]⟩ (false,⟨i,wi (e.gt 0),acc,.n4⟩) ⟨fun u hu =>?_,fun p hp =>?_,aj3,fun _ _ q =>.inr (by cases q; decide)⟩ fun f b =>?_
   ·rw [List.mem_singleton.1 hu]
    refine ⟨?_,.inr (.inr ⟨rfl,rfl⟩)⟩
    unfold IsT at h1; rw [hcc] at h1; exact h1
   ·rw [List.mem_singleton.1 hp]; exact List.mem_singleton.2 rfl
   ·have g:f.gt 0=e.gt 0:=b.g _ _ rfl
    simp only [agO,abf,g]
    rw [if_pos ((ank b.b).2 h1)]
    unfold ab6
    rw [g]; rfl
  ·exact .lf (.pt1 (s:=(false,⟨i,id,acc,.n8⟩)) (k:=6) (a:=0) (v:=wu (e.gt 0+1)) (k':=2) (w':=me) (t':=0) (o':=i) (l':=2) (by simp only [agO,abf]; rw [if_neg h1]; rfl) rfl fun f b g =>by
    have g:f.gt 0=e.gt 0:=g
    simp only [agO,abf,g]
    rw [if_neg (fun k =>h1 ((ank b).1 k))]
    unfold ab6
    rw [g])
 | n4 =>exact .lf (.pt rfl fun f b g =>by simp only [agO,abf,b.l])
 | n5 =>exact .lf (.pt rfl fun f b g =>by simp only [agO,abf,b.l,b.k])
 | n6 =>
  refine .lf (.gfE (A:=fun t =>(false,⟨i,id,acc,.a6 t⟩)) (B:=fun c _ =>if c=0 then (false,⟨i,id,true,.n7⟩) else (false,⟨i,id,acc,.n8⟩)) (E:=fun c _ =>if c=0 then [⟨1,me,id,i,s.level⟩] else []) (asn (d:=s.deadline) (t:=id) .l1) (fun c x =>?_) (fun f b s e' h =>by simp only [agO,abf,h]) fun f b c x e' h =>?_)
  ·split
   ·exact ah8 rfl
   ·exact aj3
  ·simp only [agO,abf,h]
   split<;>rfl
 | a6 t0 =>
  refine .lf (.gfE (A:=fun t =>(false,⟨i,id,acc,.a6 t⟩)) (B:=fun c _ =>if c=0 then (false,⟨i,id,true,.n7⟩) else (false,⟨i,id,acc,.n8⟩)) (E:=fun c _ =>if c=0 then [⟨1,me,id,i,s.level⟩] else []) (asn (d:=s.deadline) (t:=id) t0) (fun c x =>?_) (fun f b s e' h =>by simp only [agO,abf,h]) fun f b c x e' h =>?_)
  ·split
   ·exact ah8 rfl
   ·exact aj3
  ·simp only [agO,abf,h]
   split<;>rfl
 | n7 =>exact .lf (.pt rfl fun f b g =>by simp only [agO,abf,b.l])
 | n8 =>
  by_cases h1:acc=true
  ·exact .lf (.pt (s:=(false,⟨i,id,acc,.n9⟩)) (k:=2) (a:=1) (v:=0) (by simp only [agO,abf]; rw [if_pos h1]; rfl) fun f b g =>by simp only [agO,abf]; rw [if_pos h1]; rfl)
  ·exact .lf (.pt (s:=(decide ((c.subs.length:Int)≤wi (i+1)),⟨wi (i+1),id,false,.n1⟩)) (k:=2) (a:=1) (v:=0) (by simp only [agO,abf]; rw [if_neg h1]; rfl) fun f b g =>by simp only [agO,abf]; rw [if_neg h1]; rfl)
 | n9 =>exact .lf (.gf (A:=fun t =>(false,⟨i,id,acc,.a9 t⟩)) (B:=fun _ _ =>(decide ((c.subs.length:Int)≤wi (i+1)),⟨wi (i+1),id,false,.n1⟩)) (amo (v:=s.level) (.l1 0)) (fun f b s e' h =>by simp only [agO,abf,h]) fun f b c x e' h =>by simp only [agO,abf,h]; rfl)
 | a9 t0 =>exact .lf (.gf (A:=fun t =>(false,⟨i,id,acc,.a9 t⟩)) (B:=fun _ _ =>(decide ((c.subs.length:Int)≤wi (i+1)),⟨wi (i+1),id,false,.n1⟩)) (amo (v:=s.level) t0) (fun f b s e' h =>by simp only [agO,abf,h]) fun f b c x e' h =>by simp only [agO,abf,h]; rfl)
end
def InD (n:Nat) (D1 D2:Dl):Prop:=∀ k1 k2 a,D1.ad=some (k1,a)→D2.ad=some (k2,a)→0≤a∧a<(n:Int)→k1=1∧k2=1
structure Cor (e f:EnvP):Prop where
 c:f.c=e.c
 l:f.l=e.l
 k:f.k=e.k
 m:f.m.cells=e.m.cells
 r:f.recs=e.recs
 n:f.m.count=e.m.count
def aMk (D:Dl) (n:Nat) (x:Int):Int:=match D.ad with
 | none =>x
 | some (_,a) =>if 0≤a∧a<(n:Int) then wi (x+1) else x
section
variable {c:Cfg} {e f g:EnvP} {D D1 D2:Dl} {t:Int}
theorem Cor.refl:Cor e e:=⟨rfl,rfl,rfl,rfl,rfl,rfl⟩
theorem Cor.symm (h:Cor e f):Cor f e:=⟨h.c.symm,h.l.symm,h.k.symm,h.m.symm,h.r.symm,h.n.symm⟩
theorem Cor.trans (h:Cor e f) (h2:Cor f g):Cor e g:=⟨h2.c.trans h.c,h2.l.trans h.l,h2.k.trans h.k,h2.m.trans h.m,h2.r.trans h.r,h2.n.trans h.n⟩
theorem Cor.gt (h:Cor e f) {a:Int}:f.m.gt a=e.m.gt a:=by unfold MemV.gt; rw [h.m]
theorem Cor.ag (h:Cor e f):Ag D e f:=⟨⟨h.c,h.l,h.k,by rw [h.m],by rw [h.r]⟩,fun _ _ _ =>h.gt,fun _ _ =>by unfold EnvP.rc; rw [h.r]⟩
def aCu (D:Dl) (xs:List Int):List Int:=match D.ad with
 | none =>xs
 | some (_,a) =>if 0≤a∧a<(xs.length:Int) then xs.set a.toNat D.v else xs
theorem aiW {m:MemV}:(D.mem m).cells=aCu D m.cells:=by
 unfold Dl.mem aCu
 cases D.ad with
 | none =>rfl
 | some p =>
  obtain ⟨k,a⟩:=p
  show (m.pt k a D.v).cells=if 0≤a∧a<(m.cells.length:Int) then m.cells.set a.toNat D.v else m.cells
  unfold MemV.pt
  by_cases h:0≤a∧a<(m.cells.length:Int)
  ·rw [if_pos h,if_pos h]
  ·rw [if_neg h,if_neg h]
theorem aiV {m:MemV}:(D.mem m).count=aMk D m.cells.length m.count:=by
 unfold Dl.mem aMk
 cases D.ad with
 | none =>rfl
 | some p =>
  obtain ⟨k,a⟩:=p
  show (m.pt k a D.v).count=if 0≤a∧a<(m.cells.length:Int) then wi (m.count+1) else m.count
  unfold MemV.pt
  by_cases h:0≤a∧a<(m.cells.length:Int)
  ·rw [if_pos h,if_pos h]
  ·rw [if_neg h,if_neg h]
theorem Cor.ap (h:Cor e f):Cor (ap D e) (ap D f):=by
 refine ⟨h.c,h.l,h.k,?_,congrArg (fun r =>asT r D.rs) h.r,?_⟩
 ·show (D.mem f.m).cells=(D.mem e.m).cells
  rw [aiW,aiW,h.m]
 ·show (D.mem f.m).count=(D.mem e.m).count
  rw [aiV,aiV,h.m,h.n]
theorem aoi {m:MemV}:(D.mem m).cells.length=m.cells.length:=by
 unfold Dl.mem
 cases D.ad with
 | none =>rfl
 | some p =>
  obtain ⟨k,a⟩:=p
  show (m.pt k a D.v).cells.length=_
  unfold MemV.pt
  split
  ·show (m.cells.set _ _).length=_; rw [List.length_set]
  ·rfl
theorem asS:∀ {rs:List (Int×RecP)} {l:List RecP},(asT l rs).length=l.length
 | [],_ =>rfl
 | p::rs,l =>by
  show (asT (l.set p.1.toNat p.2) rs).length=_
  rw [asS,List.length_set]
theorem aAD:∀ {rs:List (Int×RecP)} {l:List RecP} {i:Nat},(∀ p∈rs,p.1.toNat≠i)→(asT l rs)[i]?=l[i]?
 | [],_,_,_ =>rfl
 | p::rs,l,i,h =>by
  show (asT (l.set p.1.toNat p.2) rs)[i]?=_
  rw [aAD fun q hq =>h q (List.mem_cons_of_mem _ hq),List.getElem?_set_ne (h p (List.mem_cons_self ..))]
theorem axW:∀ {rs:List (Int×RecP)} {l:List RecP} {i:Nat} {x:RecP},(∀ p∈rs,p.1.toNat≠i)→asT (l.set i x) rs=(asT l rs).set i x
 | [],_,_,_,_ =>rfl
 | p::rs,l,i,x,h =>by
  show asT ((l.set i x).set p.1.toNat p.2) rs=(asT (l.set p.1.toNat p.2) rs).set i x
  rw [List.set_comm _ _ (fun k =>h p (List.mem_cons_self ..) k.symm),axW fun q hq =>h q (List.mem_cons_of_mem _ hq)]
theorem auO:∀ {r1 r2:List (Int×RecP)} {l:List RecP},(∀ p∈r1,∀ q∈r2,p.1.toNat≠q.1.toNat)→asT (asT l r1) r2=asT (asT l r2) r1
 | [],_,_,_ =>rfl
 | p::r1,r2,l,h =>by
  show asT (asT (l.set p.1.toNat p.2) r1) r2=asT ((asT l r2).set p.1.toNat p.2) r1
  rw [auO fun a ha b hb =>h a (List.mem_cons_of_mem _ ha) b hb,axW fun q hq k =>h p (List.mem_cons_self ..) q hq k.symm]
theorem aK0 {b:Int}:(ap D e).m.gt b=match D.ad with
  | none =>e.m.gt b
  | some (_,a) =>if b=a∧0≤a∧a<(e.m.cells.length:Int) then D.v else e.m.gt b:=by
 show (D.mem e.m).gt b=_
 unfold Dl.mem
 cases D.ad with
 | none =>rfl
 | some p =>
  obtain ⟨k,a⟩:=p
  exact aix (e:=e)
theorem aKZ (h0:0≤t) (h:∀ p∈D.rs,p.1≠t∧0≤p.1):(ap D e).rc t=e.rc t:=by
 show ((asT e.recs D.rs)[t.toNat]?).getD _=(e.recs[t.toNat]?).getD _
 rw [aAD fun p hp =>by have:=h p hp; omega]
theorem aMo:Bs e (ap D e):=⟨rfl,rfl,rfl,aoi,asS⟩
theorem aBD (k1:aFn e D1) (hi:InD e.m.cells.length D1 D2) {k2 a:Int} (h2:D2.ad=some (k2,a)):(ap D1 e).m.gt a=e.m.gt a:=by
 rw [aK0]
 generalize h1:D1.ad=o
 cases o with
 | none =>rfl
 | some p =>
  obtain ⟨k,b⟩:=p
  show (if a=b∧0≤b∧b<(e.m.cells.length:Int) then D1.v else e.m.gt a)=_
  by_cases q:a=b∧0≤b∧b<(e.m.cells.length:Int)
  ·rw [if_pos q]
   obtain ⟨q1,q2⟩:=q
   subst q1
   have:=(hi k k2 a h1 h2 q2).1
   rcases k1 k a h1 with ⟨_,h⟩ | h
   ·exact h
   ·omega
  ·rw [if_neg q]
theorem InD.symm {n:Nat} (h:InD n D1 D2):InD n D2 D1:=fun k1 k2 a h1 h2 hr =>(h k2 k1 a h2 h1 hr).symm
theorem aIm (k1:aFn e D1) (k2:aFn (ap D1 e) D2) (hi:InD e.m.cells.length D1 D2)
  (r1:∀ p∈D1.rs,p.1∈D1.rd) (r2:∀ p∈D2.rs,p.1∈D2.rd) (p1:∀ t∈D1.rd,0≤t) (p2:∀ t∈D2.rd,0≤t) (dj:∀ t∈D1.rd,t ∉ D2.rd) :
  Ag D2 (ap D1 e) e∧Ag D1 e (ap D2 e)∧aFn e D2∧Cor (ap D2 (ap D1 e)) (ap D1 (ap D2 e)):=by
 have a2:aFn e D2:=fun k a h =>(k2 k a h).imp (fun q =>⟨q.1,by rw [q.2]; exact aBD k1 hi h⟩) id
 have ag2:Ag D2 (ap D1 e) e:=⟨⟨rfl,rfl,rfl,aoi.symm,asS.symm⟩,fun k a h =>(aBD k1 hi h).symm,fun t ht =>(aKZ (p2 t ht) fun p hp =>⟨fun k =>dj p.1 (r1 p hp) (k▸ht),p1 _ (r1 p hp)⟩).symm⟩
 have ag1:Ag D1 e (ap D2 e):=⟨aMo,fun k a h =>aBD a2 hi.symm h,fun t ht =>aKZ (p1 t ht) fun p hp =>⟨fun k =>dj t ht (k▸r2 p hp),p2 _ (r2 p hp)⟩⟩
 refine ⟨ag2,ag1,a2,rfl,rfl,rfl,?_,?_,?_⟩
 ·show (D1.mem (D2.mem e.m)).cells=(D2.mem (D1.mem e.m)).cells
  rw [aiW,aiW,aiW,aiW]
  unfold aCu
  generalize hd1:D1.ad=o1
  generalize hd2:D2.ad=o2
  cases o1 with
  | none =>cases o2<;>rfl
  | some x1 =>
   obtain ⟨kk1,a1⟩:=x1
   cases o2 with
   | none =>rfl
   | some x2 =>
    obtain ⟨kk2,a2'⟩:=x2
    simp only
    by_cases q1:0≤a1∧a1<(e.m.cells.length:Int)
    ·by_cases q2:0≤a2'∧a2'<(e.m.cells.length:Int)
     ·simp only [if_pos q1,if_pos q2,List.length_set]
      by_cases q3:a1=a2'
      ·subst q3
       have hk:=hi kk1 kk2 a1 hd1 hd2 q1
       have v1:D1.v=e.m.gt a1:=by rcases k1 _ _ hd1 with h | h; exact h.2; omega
       have v2:D2.v=e.m.gt a1:=by rcases a2 _ _ hd2 with h | h; exact h.2; omega
       rw [v1,v2]
      ·rw [List.set_comm _ _ (fun k =>q3 (by omega))]
     ·simp only [if_pos q1,if_neg q2,List.length_set]
    ·by_cases q2:0≤a2'∧a2'<(e.m.cells.length:Int)
     ·simp only [if_neg q1,if_pos q2,List.length_set]
     ·simp only [if_neg q1,if_neg q2]
 ·exact Eq.symm (auO fun p hp q hq k =>dj p.1 (r1 p hp) (by
   have h:=r2 q hq
   have h3:=p1 _ (r1 p hp)
   have h4:=p2 _ h
   have h5:p.1=q.1:=by omega
   rw [h5]; exact h))
 ·show (D1.mem (D2.mem e.m)).count=(D2.mem (D1.mem e.m)).count
  rw [aiV,aiV,aiV,aiV,aoi,aoi]
  unfold aMk
  cases D1.ad with
  | none =>cases D2.ad<;>rfl
  | some x1 =>
   cases D2.ad with
   | none =>rfl
   | some x2 =>
    simp only
    split<;>split<;>rfl
theorem aHO {vs:Nat→Vw} {m:Nat} (h:LI c e vs) (h1:Hd (vs m) t):Stt c e t≠1∧t<e.gt 0:=by
 obtain ⟨rl,ts,la⟩:=h
 obtain ⟨k0,k1⟩:=aHY la (m:=m) h1
 obtain ⟨_,c2,c3⟩:=la.cl t k0
 have c3:aK3 (ts t) (Stt c e t) (rcw e t) (Jo c e t) (rcs e t) (adn kKn e.evs t) (adn kFn e.evs t):=c3
 have c2:ts t=.fresh↔e.gt 0≤t:=c2
 have k1:ts t=.run m∨ts t=.bm m∨ts t=.fin m:=k1
 constructor
 ·rcases k1 with k | k | k<;>rw [k] at c3<;>(have:=c3.1; omega)
 ·rcases Int.lt_or_le t (e.gt 0) with q | q
  ·exact q
  ·have:=c2.2 q
   rcases k1 with k | k | k<;>rw [this] at k<;>cases k
theorem aFS {vs:Nat→Vw} (h:LI c e vs) (ht:TOk c t) (h1:Stt c e t=1):t<e.gt 0:=by
 obtain ⟨rl,ts,la⟩:=h
 obtain ⟨_,c2,c3⟩:=la.cl t ht
 have c3:aK3 (ts t) (Stt c e t) (rcw e t) (Jo c e t) (rcs e t) (adn kKn e.evs t) (adn kFn e.evs t):=c3
 have c2:ts t=.fresh↔e.gt 0≤t:=c2
 rcases Int.lt_or_le t (e.gt 0) with q | q
 ·exact q
 ·rw [c2.2 q] at c3
  have:=c3.1
  omega
theorem aJz {vs:Nat→Vw} {m1 m2:Nat} (hm:MI c e) (hl:(e.m.cells.length:Int)=aaX c) (hli:LI c e vs) (hN:0≤e.gt 0∧e.gt 0≤1000000) (hne:m1≠m2) (o1:Own c e (vs m1) D1 t) (o2:Own c (ap D1 e) (vs m2) D2 t) (hi:InD e.m.cells.length D1 D2):False:=by
 obtain ⟨ht,o1⟩:=o1
 obtain ⟨_,o2⟩:=o2
 have w0:wi (e.gt 0)=e.gt 0:=aaK (aao (by omega))
 have rs:0≤aaP (aau c) t∧aaP (aau c) t<(e.m.cells.length:Int):=by rw [hl]; exact aGj hm.d (f:=0) (by omega) ht
 have r0:(0:Int)≤0∧(0:Int)<(e.m.cells.length:Int):=by omega
 have un:∀ {k a:Int},D2.ad=some (k,a)→k≠1→0≤a∧a<(e.m.cells.length:Int)→(ap D1 e).m.gt a=e.m.gt a:=fun {k a} h2 hk hr =>by
  rw [aK0]
  generalize h1:D1.ad=o
  cases o with
  | none =>rfl
  | some p =>
   obtain ⟨k1,b⟩:=p
   refine if_neg fun q =>hk ?_
   obtain ⟨q1,_⟩:=q
   subst q1
   exact (hi k1 k a h1 h2 hr).2
 have c2:Stt c (ap D1 e) t=1∧D2.ad=some (3,aaP (aau c) t)→Stt c e t=1:=fun q =>(un q.2 (by decide) rs).symm.trans q.1
 have n2:D2.ad=some (6,0)∧t=wi ((ap D1 e).gt 0)→t=e.gt 0:=fun q =>by
  have:=un q.1 (by decide) r0
  rw [q.2,show (ap D1 e).gt 0=e.gt 0 from this,w0]
 rcases o1 with o1 | o1 | o1
 ·have f1:=aHO hli o1
  rcases o2 with o2 | o2 | o2
  ·exact hne (aKe hli o1 o2)
  ·exact f1.1 (c2 o2)
  ·have:=n2 o2; omega
 ·have f1:=aFS hli ht o1.1
  rcases o2 with o2 | o2 | o2
  ·exact (aHO hli o2).1 o1.1
  ·have:=(hi 3 3 _ o1.2 o2.2 rs).1; omega
  ·have:=n2 o2; omega
 ·have f1:t=e.gt 0:=o1.2.trans w0
  rcases o2 with o2 | o2 | o2
  ·have:=(aHO hli o2).2; omega
  ·have:=aFS hli ht (c2 o2); omega
  ·have:=(hi 6 6 0 o1.1 o2.1 r0).1; omega
end
end
section
structure Sys {σ A:Type} (st:Nat→σ→σ) (ac:Nat→σ→A) (R:σ→σ→Prop) (I:Nat→σ→Prop) (ind:A→A→Prop) (K W:Nat):Prop where
 r0:∀ s,R s s
 r2:∀ {s t u},R s t→R t u→R s u
 rs:∀ {N s t m},I N s→R s t→N≤K→m≤W→R (st m s) (st m t)∧ac m s=ac m t
 i:∀ {N s m},I N s→N≤K→m≤W→I (N+1) (st m s)
 d:∀ {N s m1 m2},I N s→N+1≤K→m1≤W→m2≤W→m1≠m2→ind (ac m1 s) (ac m2 (st m1 s))→R (st m2 (st m1 s)) (st m1 (st m2 s))∧ac m2 s=ac m2 (st m1 s)∧ac m1 (st m2 s)=ac m1 s
section
variable {σ A:Type} {st:Nat→σ→σ} {ac:Nat→σ→A} {R:σ→σ→Prop} {I:Nat→σ→Prop} {ind:A→A→Prop} {K W:Nat}
def azs (st:Nat→σ→σ):List Nat→σ→σ
 | [],s =>s
 | m::ms,s =>azs st ms (st m s)
def aw4 (st:Nat→σ→σ) (ac:Nat→σ→A):List Nat→σ→List (Nat×A)
 | [],_ =>[]
 | m::ms,s =>(m,ac m s)::aw4 st ac ms (st m s)
theorem apQ:∀ {a b:List Nat} {s:σ},azs st (a++b) s=azs st b (azs st a s)
 | [],_,_ =>rfl
 | _::a,b,s =>apQ (a:=a)
theorem apY:∀ {a b:List Nat} {s:σ},aw4 st ac (a++b) s=aw4 st ac a s++aw4 st ac b (azs st a s)
 | [],_,_ =>rfl
 | x::a,b,s =>congrArg ((x,ac x s)::·) (apY (a:=a))
theorem ajw:∀ {a:List Nat} {s:σ},(aw4 st ac a s).length=a.length
 | [],_ =>rfl
 | _::a,s =>congrArg (·+1) (ajw (a:=a))
theorem aBB (h:Sys st ac R I ind K W):∀ {ms:List Nat} {N:Nat} {s:σ},I N s→N+ms.length≤K→(∀ m∈ms,m≤W)→I (N+ms.length) (azs st ms s)
 | [],N,s,hi,_,_ =>hi
 | m::ms,N,s,hi,hk,hm =>by
  have hk:N+(ms.length+1)≤K:=hk
  have:=aBB h (ms:=ms) (h.i hi (by omega) (hm m (List.mem_cons_self ..))) (by omega) fun x hx =>hm x (List.mem_cons_of_mem _ hx)
  rw [show N+1+ms.length=N+(m::ms).length by show _=N+(ms.length+1); omega] at this
  exact this
theorem aFU (h:Sys st ac R I ind K W):∀ {ms:List Nat} {N:Nat} {s t:σ},I N s→R s t→N+ms.length≤K→(∀ m∈ms,m≤W)→aw4 st ac ms s=aw4 st ac ms t∧R (azs st ms s) (azs st ms t)
 | [],_,_,_,_,hr,_,_ =>⟨rfl,hr⟩
 | m::ms,N,s,t,hi,hr,hk,hm =>by
  have hk:N+(ms.length+1)≤K:=hk
  have hmW:=hm m (List.mem_cons_self ..)
  obtain ⟨h1,h2⟩:=h.rs hi hr (by omega) hmW
  obtain ⟨h3,h4⟩:=aFU h (ms:=ms) (h.i hi (by omega) hmW) h1 (by omega) fun x hx =>hm x (List.mem_cons_of_mem _ hx)
  exact ⟨by show (m,ac m s)::_=(m,ac m t)::_; rw [h2,h3],h4⟩
def Av (n:Nat) (dp:Nat→Nat→Prop) (D:List Nat) (x:Nat):Prop:=x<n∧x ∉ D∧∀ i,i<x→dp i x→i∈D
def aK6 (n:Nat) (mc:Nat→Nat) (dp:Nat→Nat→Prop) (D:List Nat) (x:Nat):Prop:=Av n dp D x∧∀ j,Av n dp D j→mc x<mc j∨(mc x=mc j∧x≤j)
def Chs (n:Nat) (mc:Nat→Nat) (dp:Nat→Nat→Prop) (ch:List Nat):Prop:=∀ pre x post,ch=pre++x::post→aK6 n mc dp pre x
def dpL (ind:A→A→Prop) (L:Nat→Nat×A) (i j:Nat):Prop:=(L i).1=(L j).1∨¬ ind (L i).2 (L j).2
end
end
section
open Go Go.RowKit
set_option maxRecDepth 100000
variable [Tb]
abbrev MS:=WorkS⊕ClieS
noncomputable def mS (c:Cfg) (m:Nat):MS→EnvP→MS×EnvP
 | .inl k,e =>(.inl (abu (m:Int) e k).1,(abu (m:Int) e k).2)
 | .inr k,e =>(.inr (ajJ c.subs c.workers e k).2.1,(ajJ c.subs c.workers e k).2.2)
structure EgC where
 e:EnvP
 ms:Nat→MS
noncomputable def af2 (c:Cfg) (m:Nat) (g:EgC):EgC:=⟨(mS c m (g.ms m) g.e).2,afJ g.ms m (mS c m (g.ms m) g.e).1⟩
def azZ (m m':MemV):Int×Int:=if m.count<m'.count then (m'.last.kind,m'.last.cell) else (0,0)
noncomputable def ao4 (c:Cfg) (m:Nat) (g:EgC):Int×Int:=azZ g.e.m (af2 c m g).e.m
def evm (m:Int) (l:List Ev):List Ev:=l.filter fun x =>decide (x.worker=m)
def EvQ (a b:List Ev):Prop:=a.length=b.length∧∀ m,evm m a=evm m b
theorem EvQ.app {a b l:List Ev} (h:EvQ a b):EvQ (a++l) (b++l):=⟨by rw [List.length_append,List.length_append,h.1],fun m =>by unfold evm; rw [List.filter_append,List.filter_append]; exact congrArg (·++_) (h.2 m)⟩
theorem aBS {m w:Int} {a:List Ev} (h:∀ x∈a,x.worker=w) (hm:m≠w):evm m a=[]:=List.filter_eq_nil_iff.2 fun x hx =>by rw [decide_eq_true_iff,h x hx]; exact fun k =>hm k.symm
theorem EvQ.swap {l a b:List Ev} {w1 w2:Int} (h1:∀ x∈a,x.worker=w1) (h2:∀ x∈b,x.worker=w2) (hne:w1≠w2):EvQ ((l++a)++b) ((l++b)++a):=by
 refine ⟨by simp only [List.length_append]; omega,fun m =>?_⟩
 have e:∀ x y:List Ev,evm m (x++y)=evm m x++evm m y:=fun x y =>List.filter_append ..
 rw [e,e,e,e]
 by_cases h:m=w1
 ·rw [aBS h2 (fun k =>hne (h.symm.trans k)),List.append_nil,List.append_nil]
 ·rw [aBS h1 h,List.append_nil,List.append_nil]
def GR (s t:EgC):Prop:=Cor s.e t.e∧s.ms=t.ms∧EvQ s.e.evs t.e.evs
def aka (a b:Int×Int):Prop:=a.1=0∨b.1=0∨a.2≠b.2∨(a.1=1∧b.1=1)
def aC7 (c:Cfg) (N:Nat) (vs:Nat→Vw) (m:Nat):MS→Prop
 | .inl k =>(m:Int)<c.workers∧ahZ (1+3*N) (mnC c) k∧aup c k∧av8 k∧vwW k=vs m
 | .inr k =>(m:Int)=c.workers∧aCX c k∧vwC k=vs m
structure GD (c:Cfg) (N:Nat) (g:EgC) (vs:Nat→Vw):Prop where
 d:DL c N g.e vs
 m:∀ m:Nat,(m:Int)≤c.workers→aC7 c N vs m (g.ms m)
def GIn (c:Cfg) (N:Nat) (g:EgC):Prop:=∃ vs,GD c N g vs
section
variable {c:Cfg} {N:Nat} {e:EnvP} {g s t:EgC} {vs:Nat→Vw} {m m1 m2:Nat} {x:MS} {D D1 D2:Dl}
def aFj (n:Nat) (D:Dl):Int×Int:=match D.ad with
 | none =>(0,0)
 | some (k,a) =>if 0≤a∧a<(n:Int) then (k,a) else (0,0)
theorem asF (h:0≤e.m.count∧e.m.count≤1000000):azZ e.m (ap D e).m=aFj e.m.cells.length D:=by
 show azZ e.m (D.mem e.m)=_
 unfold azZ aFj Dl.mem
 cases D.ad with
 | none =>exact if_neg (Int.lt_irrefl _)
 | some p =>
  obtain ⟨k,a⟩:=p
  show (if e.m.count<(e.m.pt k a D.v).count then ((e.m.pt k a D.v).last.kind,(e.m.pt k a D.v).last.cell) else (0,0))=if 0≤a∧a<(e.m.cells.length:Int) then (k,a) else (0,0)
  unfold MemV.pt
  by_cases q:0≤a∧a<(e.m.cells.length:Int)
  ·rw [if_pos q,if_pos q]
   refine if_pos ?_
   show e.m.count<wi (e.m.count+1)
   rw [aaK (aao (by omega))]; omega
  ·rw [if_neg q,if_neg q]
   exact if_neg (Int.lt_irrefl _)
theorem aLR (k1:aFn e D1) (h:aka (aFj e.m.cells.length D1) (aFj e.m.cells.length D2)) (k2:∀ k a,D2.ad=some (k,a)→k≠0):InD e.m.cells.length D1 D2:=fun a1 a2 a h1 h2 hr =>by
 unfold aka aFj at h
 rw [h1,h2] at h
 simp only [if_pos hr] at h
 have n1:a1≠0:=by rcases k1 a1 a h1 with q | q; omega; omega
 have n2:=k2 a2 a h2
 rcases h with h | h | h | h
 ·exact absurd h n1
 ·exact absurd h n2
 ·exact absurd rfl h
 ·exact h
theorem aJ2 (h:DL c N e vs) (hx:aC7 c N vs m x):Loc (Ow c e (m:Int) (vs m)) (mS c m x) e:=by
 cases x with
 | inl k =>
  obtain ⟨_,_,h2,h3,h4⟩:=hx
  rw [← h4]
  exact .mapP (aC8 (w:=(m:Int)) h.m h2 h3) Sum.inl fun f b =>rfl
 | inr k =>
  obtain ⟨h1,h2,h3⟩:=hx
  rw [← h3,h1]
  exact .mapP (aE4 (k:=k) (me:=c.workers) h.m.cc) (fun r =>Sum.inr r.2) fun f b =>rfl
theorem aHF (h:DL c N e vs) (hN:N≤100000) (hx:aC7 c N vs m x):∃ v',DL c (N+1) (mS c m x e).2 (afJ vs m v')∧aC7 c (N+1) (afJ vs m v') m (mS c m x e).1:=by
 have h0:=h.m.p 0
 have hnx:=h.nx
 cases x with
 | inl k =>
  obtain ⟨hm,hk,hg,hh,hv⟩:=hx
  have hk':=hk
  rw [← h.ei.many] at hk'
  have s2:=az5 (w:=(m:Int)) h.ei.ok k
  have s3:=az4 (w:=(m:Int)) h.ei.ok k hk' (by omega)
  have s4:=az3 (w:=(m:Int)) h.m h.n hg
  have s5:=aFo (w:=(m:Int)) h.m h.n ⟨h0,by omega⟩ h.li.rl hg hh
  rw [h.ei.many] at s3
  rw [hv] at s5
  refine ⟨_,h.stp hN s2 s4.1 s5.1,hm,s3.up (by omega),s4.2,s5.2,?_⟩
  exact abL.symm
 | inr k =>
  obtain ⟨hm,hk,hv⟩:=hx
  have s2:=aCj (subs:=c.subs) (me:=c.workers) h.ei.ok k
  have s4:=aCi (me:=c.workers) h.m h.n hk
  have s5:=aF5 (me:=c.workers) h.m h.n ⟨h0,by omega⟩ h.li.rl hk
  rw [hv] at s5
  refine ⟨_,h.stp hN s2 s4.1 s5,hm,s4.2,?_⟩
  exact abL.symm
theorem aC7.next (h:aC7 c N vs m2 x) {v:Vw} (hne:m2≠m1):aC7 c (N+1) (afJ vs m1 v) m2 x:=by
 cases x with
 | inl k =>
  obtain ⟨h1,h2,h3⟩:=h
  refine ⟨h1,h2.up (by omega),?_⟩
  rw [acO hne]; exact h3
 | inr k =>
  obtain ⟨h1,h2⟩:=h
  refine ⟨h1,?_⟩
  rw [acO hne]; exact h2
theorem axa (h:GD c N g vs) (hN:N≤100000) (hm:(m:Int)≤c.workers):∃ v',GD c (N+1) (af2 c m g) (afJ vs m v'):=by
 obtain ⟨v',h1,h2⟩:=aHF h.d hN (h.m m hm)
 refine ⟨v',h1,fun j hj =>?_⟩
 by_cases q:j=m
 ·subst q
  show aC7 c (N+1) _ j (afJ g.ms j _ j)
  rw [abL]; exact h2
 ·show aC7 c (N+1) _ j (afJ g.ms m _ j)
  rw [acO q]; exact (h.m j hj).next q
theorem aBL (h:GD c N g vs) (hm:(m:Int)≤c.workers):∃ s D,mS c m (g.ms m) g.e=(s,ap D g.e)∧Ow c g.e (m:Int) (vs m) D∧(∀ f,Ag D g.e f→mS c m (g.ms m) f=(s,ap D f)):=aJ2 h.d (h.m m hm)
theorem aos {q:MS} (h:mS c m (g.ms m) g.e=(q,ap D g.e)):af2 c m g=⟨ap D g.e,afJ g.ms m q⟩:=by unfold af2; rw [h]
theorem aDf {α:Type} {f:Nat→α} {a b:α} (h:m1≠m2):afJ (afJ f m1 a) m2 b=afJ (afJ f m2 b) m1 a:=funext fun j =>by
 unfold afJ
 by_cases k1:j=m1
 ·have:j≠m2:=fun q =>h (k1.symm.trans q)
  rw [if_pos k1,if_neg this,if_pos k1]
 ·rw [if_neg k1,if_neg k1]
theorem aEV (h:DL c N e vs) (hN:N≤100001):0≤e.m.count∧e.m.count≤1000000:=by
 have:=h.ei.ct
 omega
theorem aJA {v:Vw} {w:Int} (h:Ow c e w v D):∀ t∈D.rd,0≤t:=fun t ht =>(h.rd t ht).1.1
theorem aMq (h:aFn e D):∀ k a,D.ad=some (k,a)→k≠0:=fun k a q =>by rcases h k a q with w | w<;>omega
theorem aIK (c:Cfg):Sys (af2 c) (ao4 c) GR (GIn c) aka 100000 c.workers.toNat where
 r0 s:=⟨.refl,rfl,rfl,fun _ =>rfl⟩
 r2 h1 h2:=⟨h1.1.trans h2.1,h1.2.1.trans h2.2.1,h1.2.2.1.trans h2.2.2.1,fun m =>(h1.2.2.2 m).trans (h2.2.2.2 m)⟩
 rs {N s t m} hi hr hN hm:=by
  obtain ⟨vs,h⟩:=hi
  have hw:1≤c.workers:=h.d.m.d.w.1
  obtain ⟨q,D,e1,o1,l1⟩:=aBL (m:=m) h (by omega)
  have e2:=l1 t.e hr.1.ag
  rw [hr.2.1] at e2
  have g1:=aos e1
  have g2:af2 c m t=⟨ap D t.e,afJ t.ms m q⟩:=aos e2
  refine ⟨⟨by rw [g1,g2]; exact hr.1.ap,by rw [g1,g2,hr.2.1],by rw [g1,g2]; show EvQ (azU s.e.evs D.es) (azU t.e.evs D.es); rw [amg,amg]; exact hr.2.2.app⟩,?_⟩
  have ct:=aEV h.d (by omega)
  unfold ao4
  rw [g1,g2]
  show azZ s.e.m (ap D s.e).m=azZ t.e.m (ap D t.e).m
  rw [asF ct,asF (by rw [hr.1.n]; exact ct),hr.1.m]
 i {N s m} hi hN hm:=by
  obtain ⟨vs,h⟩:=hi
  have hw:1≤c.workers:=h.d.m.d.w.1
  obtain ⟨v',h2⟩:=axa (m:=m) h hN (by omega)
  exact ⟨_,h2⟩
 d {N s m1 m2} hi hN hm1 hm2 hne hind:=by
  obtain ⟨vs,h⟩:=hi
  have hw:1≤c.workers:=h.d.m.d.w.1
  obtain ⟨q1,D1,e1,o1,l1⟩:=aBL (m:=m1) h (by omega)
  obtain ⟨v',h2⟩:=axa (m:=m1) h (by omega) (by omega)
  obtain ⟨q2,D2,e2,o2,l2⟩:=aBL (m:=m2) h2 (by omega)
  have g1:=aos e1
  have em2:(af2 c m1 s).ms m2=s.ms m2:=acO (fun k =>hne k.symm)
  have ee1:(af2 c m1 s).e=ap D1 s.e:=by rw [g1]
  have ev2:afJ vs m1 v' m2=vs m2:=acO (fun k =>hne k.symm)
  rw [ev2] at o2
  have g2:=aos e2
  rw [em2] at e2 l2
  rw [ee1] at e2 o2 l2
  have ct:=aEV h.d (by omega)
  have ct1:=aEV h2.d (by omega)
  rw [ee1] at ct1
  have a1:ao4 c m1 s=aFj s.e.m.cells.length D1:=by
   unfold ao4; rw [g1]; exact asF ct
  have a2:ao4 c m2 (af2 c m1 s)=aFj s.e.m.cells.length D2:=by
   unfold ao4; rw [g2,ee1]
   show azZ (ap D1 s.e).m (ap D2 (ap D1 s.e)).m=_
   rw [asF ct1]
   show aFj (D1.mem s.e.m).cells.length D2=_
   rw [aoi]
  rw [a1,a2] at hind
  have hI:=aLR o1.k hind (aMq o2.k)
  have nx0:=h.d.m.p 0
  have nx1:=h.d.nx
  have dj:∀ t∈D1.rd,t ∉ D2.rd:=fun t ht1 ht2 =>aJz h.d.m h.d.n h.d.li ⟨nx0,by omega⟩ hne (o1.rd t ht1) (o2.rd t ht2) hI
  obtain ⟨ag2,ag1,ak2,cr⟩:=aIm o1.k o2.k hI o1.rs o2.rs (aJA o1) (aJA o2) dj
  have f2:=l2 s.e ag2
  have gg2:af2 c m2 s=⟨ap D2 s.e,afJ s.ms m2 q2⟩:=aos f2
  have em1:(af2 c m2 s).ms m1=s.ms m1:=acO hne
  have ee2:(af2 c m2 s).e=ap D2 s.e:=by rw [gg2]
  have f1:mS c m1 ((af2 c m2 s).ms m1) (af2 c m2 s).e=(q1,ap D1 (af2 c m2 s).e):=by rw [em1,ee2]; exact l1 _ ag1
  have gg1:=aos f1
  refine ⟨⟨?_,?_,?_⟩,?_,?_⟩
  ·rw [g2,gg1,ee1,ee2]; exact cr
  ·rw [g2,gg1,g1,gg2]; exact aDf hne
  ·rw [g2,gg1,ee1,ee2]
   show EvQ (azU (azU s.e.evs D1.es) D2.es) (azU (azU s.e.evs D2.es) D1.es)
   rw [amg,amg,amg,amg]
   exact .swap o1.es o2.es (by omega)
  ·rw [a2]
   unfold ao4; rw [gg2]; exact asF ct
  ·rw [a1]
   unfold ao4; rw [gg1,ee2]
   have ct2:0≤(ap D2 s.e).m.count∧(ap D2 s.e).m.count≤1000000:=by
    obtain ⟨v2,h3⟩:=axa (m:=m2) h (by omega) (by omega)
    have:=aEV h3.d (by omega)
    rw [ee2] at this; exact this
   show azZ (ap D2 s.e).m (ap D1 (ap D2 s.e)).m=_
   rw [asF ct2]
   show aFj (D2.mem s.e.m).cells.length D1=_
   rw [aoi]
end
end
section
open Go Go.RowKit
variable [Tb]
noncomputable def aht (l:List RecP):Option ((List RecP×Unit)×(List RecP×Unit)):=if l.length≤1000000 then some ((l,()),(l,())) else none
noncomputable abbrev akM:Con SR1:=⟨57,[.lent 61],[.sh (.row 61)],fun x =>aht x.1⟩
def Dup (P:aad):Prop:=∀ (L:List aad) (h:Hp),abW (P::L) h→abW (P::P::L) h
theorem ayW {P:aad} {p:Prop} (hP:∀ k,P k↔p):Dup P:=fun L h hs =>by
 obtain ⟨k1,k2,a,e,h1,h2⟩:=hs
 have hp:=(hP _).1 h1
 refine ⟨fun _ _ =>none,h,fun _ _ =>.inl rfl,by funext x y; rfl,(hP _).2 hp,k1,k2,a,e,h1,h2⟩
theorem ayX:∀ {N L:List aad} {h:Hp},(∀ P∈N,Dup P)→abW (N++L) h→abW (N++(N++L)) h
 | [],_,_,_,s =>s
 | P::N,L,h,hd,s =>by
  have h1:abW (P::P::(N++L)) h:=hd P List.mem_cons_self _ _ s
  have h2:abW (P::P::(N++(N++L))) h:=abp (fun _ =>abp fun _ =>ayX fun Q hQ =>hd Q (List.mem_cons_of_mem _ hQ)) h1
  refine abM ?_ h2
  show (P::P::(N++(N++L))).Perm (P::(N++(P::(N++L))))
  exact List.Perm.cons _ (List.perm_middle (l₁:=N)).symm
theorem aB3 {k:IntKind} {x:Int} {v:Value}:Dup (pcS SR1.kt (.i k x) v):=ayW (p:=v=.int k x) fun _ =>by rw [aax]; exact Iff.rfl
theorem aMg {x:Bool} {v:Value}:Dup (pcS SR1.kt (.b x) v):=ayW (p:=v=.bool x) fun _ =>by rw [aax]; exact Iff.rfl
theorem aKG {c:Nat} {xs:List (SR1.T c)} {v:Value}:Dup (pcS SR1.kt (.ro c xs) v):=fun L h hs =>by
 obtain ⟨k1,k2,a,e,h1,h2⟩:=hs
 rw [aax] at h1
 obtain ⟨A,cap,ev,hr⟩:=h1
 have h3:=ax3 h ⟨k1,k2,a,e,hr,h2⟩
 have hi:∀ k,roS (afG SR1.kt c) (SR1.kt.sz c) A cap xs k→pcS SR1.kt (.ro c xs) v k:=fun k hk =>aax.2 (show pcW SR1.kt (obS SR1.kt) (rwS SR1.kt) (.ro c xs) v k from ⟨A,cap,ev,hk⟩)
 exact aaJ hi (abp (fun _ =>aaJ hi) h3)
theorem aEK {L:List aad} {h:Hp} (s:abW L h) (hm:(fun _ =>False)∈L):False:=by
 induction L generalizing h with
 | nil =>cases hm
 | cons A L ih =>
  obtain ⟨_,_,_,_,h1,h2⟩:=s
  rcases List.mem_cons.1 hm with e | e
  ·rw [← e] at h1; exact h1
  ·exact ih h2 e
theorem au3:∀ {xs:List RecP} {vss:List (List Value)} {L:List aad} {h:Hp},abW (abX SR1.kt (pcS SR1.kt) 61 xs vss++L) h→(∃ rs:List aMs,rs.length=xs.length∧vss=rs.map aly)∧∀ P∈abX SR1.kt (pcS SR1.kt) 61 xs vss,Dup P
 | [],[],_,_,_ =>⟨⟨[],rfl,rfl⟩,fun _ h =>by cases h⟩
 | [],_::_,_,_,s =>by obtain ⟨_,_,_,_,h,_⟩:=s; cases h
 | _::_,[],_,_,s =>by obtain ⟨_,_,_,_,h,_⟩:=s; cases h
 | x::xs,vs::vss,L,h,s =>by
  have s1:abW (fsS (pcS SR1.kt) [.i .i64 x.prog,.i .i64 x.parent,.i .i64 x.pc,.i .i64 x.left,.i .i64 x.waiting,.ro 1 x.kids,.b x.started] vs++(abX SR1.kt (pcS SR1.kt) 61 xs vss++L)) h:=by
   rw [← List.append_assoc]; exact s
  rcases vs with _ | ⟨a,_ | ⟨b,_ | ⟨c,_ | ⟨d,_ | ⟨e,_ | ⟨f,_ | ⟨g,_ | ⟨z,vs⟩⟩⟩⟩⟩⟩⟩⟩
  case cons.cons.cons.cons.cons.cons.cons.nil =>
   obtain ⟨ka,h1,_,_,ha,kb,h2,_,_,hb,kc,h3,_,_,hc,kd,h4,_,_,hd,ke,h5,_,_,he,kf,h6,_,_,hf,kg,h7,_,_,hg,hL⟩:=s1
   obtain ⟨⟨rs,hr1,hr2⟩,hr3⟩:=au3 hL
   rw [aax] at ha hb hc hd he hf hg
   obtain ⟨A,cap,hf,_⟩:=hf
   replace ha:a=.int .i64 x.prog:=ha
   replace hb:b=.int .i64 x.parent:=hb
   replace hc:c=.int .i64 x.pc:=hc
   replace hd:d=.int .i64 x.left:=hd
   replace he:e=.int .i64 x.waiting:=he
   replace hg:g=.bool x.started:=hg
   refine ⟨⟨(x.prog,x.parent,x.pc,x.left,x.waiting,(A,x.kids.length,cap),x.started)::rs,by simp [hr1],?_⟩,fun P hP =>?_⟩
   ·rw [List.map_cons,← hr2,ha,hb,hc,hd,he,hf,hg]; rfl
   ·rcases List.mem_append.1 (show P∈fsS (pcS SR1.kt) [.i .i64 x.prog,.i .i64 x.parent,.i .i64 x.pc,.i .i64 x.left,.i .i64 x.waiting,.ro 1 x.kids,.b x.started] [a,b,c,d,e,f,g]++abX SR1.kt (pcS SR1.kt) 61 xs vss from hP) with h | h
    ·simp only [fsS,List.mem_cons,List.not_mem_nil,or_false] at h
     rcases h with rfl | rfl | rfl | rfl | rfl | rfl | rfl
     ·exact aB3
     ·exact aB3
     ·exact aB3
     ·exact aB3
     ·exact aB3
     ·exact aKG
     ·exact aMg
    ·exact hr3 P h
  all_goals (exfalso; exact aEK s1 (by simp [fsS]))
theorem at6:CO Tryz.prog akM:=fun x out hx B W hg vs F w hw =>by
 obtain ⟨hb,hB,hs⟩:=hw
 replace hx:aht x.1=some out:=hx
 unfold aht at hx
 split at hx
 case isFalse =>cases hx
 rename_i hl
 cases hx
 show afA Tryz.prog akM.f _ w _
 rw [adG rfl]
 rcases vs with _ | ⟨v,_ | ⟨v2,vs⟩⟩
 ·exact aaA hs
 ·replace hs:Sat B w [pcS SR1.kt (.row 61 x.1) v,F]:=hs
  obtain ⟨A,cap,rfl,s1⟩:=auU hs
  obtain ⟨hh,Hh,k1,k2,ka,ke,hr,hF⟩:=s1
  obtain ⟨vss,hr⟩:=ac8.1 hr
  have s2:Sat B w (ae9 A (List.length x.1) cap 7 vss.flatten::(abX SR1.kt (pcS SR1.kt) 61 x.1 vss++[F])):=⟨hh,Hh,(aaj (L:=ae9 A (List.length x.1) cap 7 vss.flatten::abX SR1.kt (pcS SR1.kt) 61 x.1 vss)).2 ⟨k1,k2,ka,ke,hr,hF⟩⟩
  obtain ⟨h2,H2,g1,g2,ga,ge,hrow,hN⟩:=s2
  obtain ⟨⟨rs,hr1,rfl⟩,hd⟩:=au3 hN
  have s3:Sat B w (ae9 A (List.length x.1) cap 7 (rs.flatMap aly)::(abX SR1.kt (pcS SR1.kt) 61 x.1 (rs.map aly)++(abX SR1.kt (pcS SR1.kt) 61 x.1 (rs.map aly)++[F]))):=⟨h2,H2,g1,g2,ga,ge,by rw [List.flatMap_def]; exact hrow,ayX hd hN⟩
  have hsl:=(arJ (aqu (sz:=7) (by decide) (fun _ =>rfl) hr1 B w s3) List.mem_cons_self).1
  have hcl:=at5 A cap rs w hsl (by rw [hr1]; exact hl)
  rw [hr1] at hcl
  refine hcl.mono fun e w' ⟨⟨A',c',he,hown⟩,hb'⟩ =>⟨[.slice A' (List.length x.1) c'],by rw [he,hr1]; rfl,hb.trans (hb'.mono hB),Nat.le_trans hB hb'.size,?_⟩
  rw [hr1] at hown
  have s4:=ahG s3 hb' hB hown
  have wrap:∀ (Z:Option Addr) (q:Nat) (L:List aad),Sat B w' ((ae9 Z (List.length x.1) q 7 (rs.flatMap aly)::abX SR1.kt (pcS SR1.kt) 61 x.1 (rs.map aly))++L)→Sat B w' (pcS SR1.kt (.row 61 x.1) (.slice Z (List.length x.1) q)::L):=fun Z q L s =>
   afM (A:=pcS SR1.kt (.row 61 x.1) (.slice Z (List.length x.1) q)) (fun k hk =>aax.2 (show pcW SR1.kt (obS SR1.kt) (rwS SR1.kt) (.row 61 x.1) _ k from ⟨Z,q,rfl,ac8.2 ⟨rs.map aly,by rw [List.flatMap_def] at hk; exact hk⟩⟩)) s
  have s5:=wrap A' c' (ae9 A (List.length x.1) cap 7 (rs.flatMap aly)::(abX SR1.kt (pcS SR1.kt) 61 x.1 (rs.map aly)++[F])) (s4.perm (List.Perm.cons _ (List.perm_middle (l₁:=abX SR1.kt (pcS SR1.kt) 61 x.1 (rs.map aly))).symm))
  have s6:=wrap A cap [pcS SR1.kt (.row 61 x.1) (.slice A' (List.length x.1) c'),F] (s5.perm ((List.Perm.swap ..).trans (List.Perm.cons _ (List.perm_middle (l₁:=abX SR1.kt (pcS SR1.kt) 61 x.1 (rs.map aly))).symm)))
  exact s6.perm (List.Perm.swap ..)
 ·replace hs:Sat B w (pcS SR1.kt (.row 61 x.1) v::([fun _ =>False]++[F])):=hs
  exact aaA hs.drop
theorem aEA {B:Nat} {w:World} {kids:List Int} {u:Value} {L:List aad} (s:Sat B w (pcS SR1.kt (.row 1 kids) u::L)):Sat B w (pcS SR1.kt (.ro 1 kids) u::L):=by
 obtain ⟨h,Hh,k1,k2,a,e,h1,hL⟩:=s
 rw [aax] at h1
 obtain ⟨A,cap,ev,hr⟩:=h1
 obtain ⟨h',Hh',q1,q2,a',e',g1,g2⟩:=ar0 (K:=SR1.kt) (c:=1) rfl (by decide) (show Sat B w (rwS SR1.kt 1 kids A cap::L) from ⟨h,Hh,k1,k2,a,e,hr,hL⟩)
 exact ⟨h',Hh',q1,q2,a',e',aax.2 (show pcW SR1.kt (obS SR1.kt) (rwS SR1.kt) (.ro 1 kids) u q1 from ⟨A,cap,ev,g1⟩),g2⟩
theorem au1 {B:Nat} {w:World}:∀ {xs:List RecP} {vss:List (List Value)} {L:List aad},Sat B w (abX SR1.kt (pcS SR1.kt) 26 xs vss++L)→Sat B w (abX SR1.kt (pcS SR1.kt) 61 xs vss++L)
 | [],[],_,s =>s
 | [],_::_,_,s =>by obtain ⟨_,_,_,_,_,_,h,_⟩:=s; cases h
 | _::_,[],_,s =>by obtain ⟨_,_,_,_,_,_,h,_⟩:=s; cases h
 | x::xs,vs::vss,L,s =>by
  have s1:Sat B w (fsS (pcS SR1.kt) (SR1.kt.vw 26 x) vs++(abX SR1.kt (pcS SR1.kt) 26 xs vss++L)):=by rw [← List.append_assoc]; exact s
  have s2:Sat B w (abX SR1.kt (pcS SR1.kt) 26 xs vss++(fsS (pcS SR1.kt) (SR1.kt.vw 26 x) vs++L)):=s1.perm (by
   rw [← List.append_assoc,← List.append_assoc]; exact List.perm_append_comm.append_right _)
  have s3:=au1 s2
  have s4:Sat B w (fsS (pcS SR1.kt) (SR1.kt.vw 26 x) vs++(abX SR1.kt (pcS SR1.kt) 61 xs vss++L)):=s3.perm (by
   rw [← List.append_assoc,← List.append_assoc]; exact List.perm_append_comm.append_right _)
  have hl:vs.length=7:=by
   obtain ⟨h,_,hs⟩:=s4
   have:=arb hs
   rw [← this]; rfl
  have hov:vs[5]?=some vs[5]:=List.getElem?_eq_getElem (by omega)
  have hf:(SR1.kt.vw 26 x)[5]?=some (.row 1 x.kids):=rfl
  have p:=(agu (pc:=pcS SR1.kt) hf hov).1
  have s5:=aEA (s4.perm (p.append_right _))
  have p2:=(agu (pc:=pcS SR1.kt) hf hov).2 (.ro 1 x.kids) vs[5]
  rw [amA hov] at p2
  have s6:Sat B w (fsS (pcS SR1.kt) ((SR1.kt.vw 26 x).set 5 (.ro 1 x.kids)) vs++(abX SR1.kt (pcS SR1.kt) 61 xs vss++L)):=s5.perm (p2.symm.append_right _)
  have e:(SR1.kt.vw 26 x).set 5 (.ro 1 x.kids)=SR1.kt.vw 61 x:=rfl
  rw [e,← List.append_assoc] at s6
  exact s6
theorem aDK {B:Nat} {w:World} {xs:List RecP} {u:Value} {L:List aad} (s:Sat B w (pcS SR1.kt (.row 26 xs) u::L)):Sat B w (pcS SR1.kt (.row 61 xs) u::L):=by
 obtain ⟨h,Hh,k1,k2,a,e,h1,hL⟩:=s
 rw [aax] at h1
 obtain ⟨A,cap,ev,hr⟩:=h1
 obtain ⟨vss,hr⟩:=ac8.1 hr
 have s2:Sat B w ((ae9 A (List.length xs) cap 7 vss.flatten::abX SR1.kt (pcS SR1.kt) 26 xs vss)++L):=⟨h,Hh,aaj.2 ⟨k1,k2,a,e,hr,hL⟩⟩
 have s3:Sat B w (abX SR1.kt (pcS SR1.kt) 26 xs vss++(ae9 A (List.length xs) cap 7 vss.flatten::L)):=s2.perm (List.perm_middle (l₁:=abX SR1.kt (pcS SR1.kt) 26 xs vss)).symm
 have s4:=au1 s3
 have s5:Sat B w ((ae9 A (List.length xs) cap 7 vss.flatten::abX SR1.kt (pcS SR1.kt) 61 xs vss)++L):=s4.perm (List.perm_middle (l₁:=abX SR1.kt (pcS SR1.kt) 61 xs vss))
 exact afM (A:=pcS SR1.kt (.row 61 xs) u) (fun k hk =>aax.2 (show pcW SR1.kt (obS SR1.kt) (rwS SR1.kt) (.row 61 xs) u k from ⟨A,cap,ev,ac8.2 ⟨vss,hk⟩⟩)) s5
theorem aEO {B:Nat} {w:World} {x:EnvP} {v:Value} {L:List aad} (s:Sat B w (pcS SR1.kt (.own 27 x) v::L)):Sat B w (pcS SR1.kt (.own 62 x) v::L):=by
 obtain ⟨h,Hh,k1,k2,a,e,h1,hL⟩:=s
 rw [aax] at h1
 obtain ⟨q,ev,hr⟩:=h1
 obtain ⟨vs,hr⟩:=aiv.1 hr
 have s2:Sat B w ((pts q.1 q.2 vs::fsS (pcS SR1.kt) (SR1.kt.vw 27 x) vs)++L):=⟨h,Hh,aaj.2 ⟨k1,k2,a,e,hr,hL⟩⟩
 have s3:Sat B w (fsS (pcS SR1.kt) (SR1.kt.vw 27 x) vs++(pts q.1 q.2 vs::L)):=s2.perm (List.perm_middle (l₁:=fsS (pcS SR1.kt) (SR1.kt.vw 27 x) vs)).symm
 have hl:vs.length=26:=by
  obtain ⟨h,_,hs⟩:=s3
  have:=arb hs
  rw [← this]; rfl
 have hov:vs[24]?=some vs[24]:=List.getElem?_eq_getElem (by omega)
 have hf:(SR1.kt.vw 27 x)[24]?=some (.row 26 x.recs):=rfl
 have p:=(agu (pc:=pcS SR1.kt) hf hov).1
 have s5:=aDK (s3.perm (p.append_right _))
 have p2:=(agu (pc:=pcS SR1.kt) hf hov).2 (.row 61 x.recs) vs[24]
 rw [amA hov] at p2
 have s6:Sat B w (fsS (pcS SR1.kt) ((SR1.kt.vw 27 x).set 24 (.row 61 x.recs)) vs++(pts q.1 q.2 vs::L)):=s5.perm (p2.symm.append_right _)
 have e2:(SR1.kt.vw 27 x).set 24 (.row 61 x.recs)=SR1.kt.vw 62 x:=rfl
 rw [e2] at s6
 have s7:Sat B w ((pts q.1 q.2 vs::fsS (pcS SR1.kt) (SR1.kt.vw 62 x) vs)++L):=s6.perm (List.perm_middle (l₁:=fsS (pcS SR1.kt) (SR1.kt.vw 62 x) vs))
 exact afM (A:=pcS SR1.kt (.own 62 x) v) (fun k hk =>aax.2 (show pcW SR1.kt (obS SR1.kt) (rwS SR1.kt) (.own 62 x) v k from ⟨q,ev,aiv.2 ⟨vs,hk⟩⟩)) s7
end
section
open Go Go.RowKit
set_option maxRecDepth 100000
variable [Tb]
abbrev acA (xs:List RecP) (i:Int):RecP:=atL (dfR 61:TR 61) xs i
noncomputable def afb (y0:MemV):Option ((MemV×Unit)×(MemV×Unit)) :=
 (ac2 y0).bind fun r1 =>
 some ((({ y0 with cells:=r1.1.1 }:MemV),()),(r1.2.1,()))
noncomputable abbrev ah9:Con SR1:=⟨55,[.ref 9],[.sh (.own 9)],fun x =>afb x.1⟩
theorem al2:CO Tryz.prog ah9:=aal aai Tryz.func55 [acl] ⟨acT,trivial⟩
noncomputable def aiz (y0:ClkV):Option ((ClkV×Unit)×(ClkV×Unit)) :=
 some ((y0,()),(y0,()))
noncomputable abbrev ajX:Con SR1:=⟨56,[.ref 25],[.sh (.own 25)],fun x =>aiz x.1⟩
theorem aou:CO Tryz.prog ajX:=aal aai Tryz.func56 [] trivial
noncomputable def ags (y0:EnvP):Option ((EnvP×Unit)×(EnvP×Unit)) :=
 (afq y0.c).bind fun r1 =>
 gL y0.l (
  (afb y0.m).bind fun r2 =>
  gL y0.l (
   (aiz y0.k).bind fun r3 =>
   gL y0.l (
   (aht y0.recs).bind fun r4 =>
   gL y0.l (
   (alm y0.evs).bind fun r5 =>
   gL y0.l (
   (lpF (σ:=Int×EnvP×Unit) (β:=Int×EnvP×Unit) (fun self8 x6 =>
   if x6.1<((r4.1.1.length:Nat):Int) then
   if 0≤x6.1∧x6.1<((x6.2.1.recs.length:Nat):Int) then
   (ai8 ((acA x6.2.1.recs x6.1).kids)).bind fun r9 =>
   if 0≤x6.1∧x6.1<(((x6.2.1.recs.set x6.1.toNat (acA x6.2.1.recs x6.1)).length:Nat):Int) then
   self8 (wi (x6.1+1),({ x6.2.1 with recs:=(x6.2.1.recs.set x6.1.toNat (acA x6.2.1.recs x6.1)).set x6.1.toNat ({ acA (x6.2.1.recs.set x6.1.toNat (acA x6.2.1.recs x6.1)) x6.1 with kids:=r9.1.1 }:RecP) }:EnvP),())
   else none
   else none
   else
   some (x6.1,x6.2.1,())
   ) 18446744073709551616 (0,(⟨r1.1.1,y0.l,r2.1.1,r3.1.1,r4.1.1,r5.1.1⟩:EnvP),())).bind fun z7 =>
   some ((z7.2.1,()),(({ y0 with m:=r2.2.1,k:=r3.2.1,recs:=r4.2.1,evs:=r5.2.1 }:EnvP),()))
   )
   )
   )
  )
 )
noncomputable abbrev apA:Con SR1:=⟨45,[.ref 62],[.sh (.own 62)],fun x =>ags x.1⟩
theorem aoj:CO Tryz.prog apA:=aal aai Tryz.func45 [aho,ah9,ajX,akM,asw,arv] ⟨aiy,al2,aou,at6,axo,avS,trivial⟩ [(3,.loop [.rg 41 sI_,.rg 3 (.own 62)] 18446744073709551616 0)]
end
section
open Go Go.RowKit
variable [Tb]
theorem aMj {f:FuncId} {spec:EnvP→Option ((EnvP×Unit)×(EnvP×Unit))} (h:CO Tryz.prog (⟨f,[.ref 62],[.sh (.own 62)],fun x =>spec x.1⟩:Con SR1)) :
  CO Tryz.prog (⟨f,[.rw 27 62],[.sh (.own 62)],fun x =>spec x.1⟩:Con SR1):=fun x out hx B W hg vs F w hw =>by
 obtain ⟨hb,hB,hs⟩:=hw
 rcases vs with _ | ⟨v,_ | ⟨v2,vs⟩⟩
 ·exact aaA hs
 ·replace hs:Sat B w [pcS SR1.kt (.own 27 x.1) v,F]:=hs
  exact h x out hx B W hg [v] F w ⟨hb,hB,aEO hs⟩
 ·replace hs:Sat B w (pcS SR1.kt (.own 27 x.1) v::([fun _ =>False]++[F])):=hs
  exact aaA hs.drop
noncomputable def ap3 (e:EnvP):Option ((EnvP×Unit)×(EnvP×Unit)):=ags e
noncomputable abbrev ai3:Con SR1:=⟨45,[.rw 27 62],[.sh (.own 62)],fun x =>ap3 x.1⟩
theorem ajD:CO Tryz.prog ai3:=aMj aoj
end
section
open Go.RowKit Go.Maps
set_option maxRecDepth 100000
theorem aAs (w:World):(Go.underlying 146).run Tryz.prog w=.ok (.pointer 150) w:=acw Tryz.underlying146
theorem aAr (w:World):(zeroValue 146).run Tryz.prog w=.ok (.pointer none) w:=by
 obtain ⟨i,hi⟩:∃ i,Tryz.prog.info? 146=some i∧i.zero=some (.pointer none):=⟨_,rfl,by kernel_rfl⟩
 unfold zeroValue
 rw [aaa (acn hi.1)]
 simp [hi.2]
theorem aI7 (w:World):(Instr.typeAssert .nilIface 90 146 true).run Tryz.prog w=.ok (.tuple #[.pointer none,.bool false]) w:=by
 simp [Instr.typeAssert,aAs,aAr]
theorem aDv (w:World) (T:TypeId) (u:Value) (h:T≠146):(Instr.typeAssert (.iface T u) 90 146 true).run Tryz.prog w=.ok (.tuple #[.pointer none,.bool false]) w:=by
 simp [Instr.typeAssert,aAs,aAr,h]
theorem aLx (w:World) (u:Value):(Instr.typeAssert (.iface 146 u) 90 146 true).run Tryz.prog w=.ok (.tuple #[u,.bool true]) w:=by
 simp [Instr.typeAssert,aAs]
theorem aAp (w:World):Calls Tryz.prog 62 #[.nilIface] w fun e w' =>e=.returned (.slice none 0 0)∧w'=w:=by
 have q:=aI7
 go_enter Tryz.func62,Tryz.ntmps62
 go_wp2
 go_ret
 exact ⟨rfl,rfl⟩
theorem awn (w:World) (T:TypeId) (u:Value) (h:T≠146):Calls Tryz.prog 62 #[.iface T u] w fun e w' =>e=.returned (.slice none 0 0)∧w'=w:=by
 have q:∀ w,(Instr.typeAssert (.iface T u) 90 146 true).run Tryz.prog w=.ok (.tuple #[.pointer none,.bool false]) w:=fun w =>aDv w T u h
 clear h
 go_enter Tryz.func62,Tryz.ntmps62
 go_wp2
 go_ret
 exact ⟨rfl,rfl⟩
theorem aAo (w:World) (b o:Nat) (A:Option Addr) (cap:Nat) (xs:List Int) (h:w.cell? ⟨b,o+4,none⟩=some (.slice A xs.length cap)) (hx:Sl arn 1 w w.heap.size A xs) (hn:xs.length≤1000000) :
  Calls Tryz.prog 62 #[.iface 146 (.pointer (some ⟨b,o,none⟩))] w (alQ arn 1 3 w xs):=by
 have q:∀ w,(Instr.typeAssert (.iface 146 (.pointer (some ⟨b,o,none⟩))) 90 146 true).run Tryz.prog w=.ok (.tuple #[.pointer (some ⟨b,o,none⟩),.bool true]) w:=fun w =>aLx w _
 go_enter Tryz.func62,Tryz.ntmps62
 go_wp2_with fail
 refine (ao6 A cap xs w hx hn).mono ?_
 rintro e w3 ⟨⟨A3,q3,rfl,hs3⟩,hb3⟩
 go_wp2
 go_ret
 exact ⟨⟨A3,q3,rfl,hs3⟩,hb3⟩
end
section
open Go Go.RowKit
variable [Tb]
set_option maxRecDepth 100000
def ajk:MV→List Int
 | .run x =>x.stack
 | _ =>[]
noncomputable def ahH (m:MV):Option ((List Int×Unit)×(MV×Unit)):=if (ajk m).length≤1000000 then some ((ajk m,()),(m,())) else none
noncomputable abbrev ajl:Con SR1:=⟨62,[.mch],[.sh (.row 1)],fun x =>ahH x.1⟩
theorem ahS {F:Type} {pc:F→Value→aad} {f:F} {fs:List F} {vs:List Value} {L:List aad} {B:Nat} {w:World} (s:Sat B w (fsS pc (f::fs) vs++L)):∃ v vs',vs=v::vs'∧Sat B w (pc f v::(fsS pc fs vs'++L)):=by
 cases vs with
 | nil =>exact aaA s
 | cons v vs =>exact ⟨v,vs,rfl,s⟩
theorem aAq {m:MV} (hn:(ajk m).length≤1000000) {B:Nat} {w:World} {v:Value} {F:aad} (hB:B≤w.heap.size) (hs:Sat B w (pcS SR1.kt (.mach m) v::[F])):Calls Tryz.prog 62 #[v] w fun e w' =>∃ u,e=.returned u∧Below w.heap.size w w'∧Sat B w' (pcS SR1.kt (.row 1 (ajk m)) u::pcS SR1.kt (.mach m) v::[F]):=by
 have nil:∀ {m':MV},ajk m'=[]→Sat B w (pcS SR1.kt (.mach m) v::[F])→Sat B w (pcS SR1.kt (.row 1 (ajk m')) (.slice none 0 0)::pcS SR1.kt (.mach m) v::[F]):=fun h s =>by
  rw [h]
  exact ahg (S:=SR1) (c:=1) (fun _ =>rfl) (s.imp (arm 1))
 have hs0:=hs
 obtain ⟨hh,Hh,j1,j2,ja,je,h1,hL⟩:=hs
 cases m
 case nil =>
  rw [aax] at h1
  obtain rfl:v=.nilIface:=h1
  exact (aAp w).mono fun e w' ⟨he,hw⟩ =>⟨_,he,by rw [hw]; exact Below.refl _ _,by rw [hw]; exact nil (m':=.nil) rfl hs0⟩
 case run x =>
  obtain ⟨⟨q1,q2⟩,rfl,ho⟩:=(aiX (K:=SR1.kt) rfl).1 h1
  obtain ⟨vs,hst⟩:=aiv.1 ho
  have s1:Sat B w (pts q1 q2 vs::(fsS (pcS SR1.kt) (SR1.kt.vw 33 x) vs++[F])):=(⟨hh,Hh,aaj.2 ⟨j1,j2,ja,je,hst,hL⟩⟩)
  have s2:=s1.drop
  obtain ⟨v0,vs0,rfl,s3⟩:=ahS s2
  obtain ⟨v1,vs1,rfl,s4⟩:=ahS s3.drop
  obtain ⟨v2,vs2,rfl,s5⟩:=ahS s4.drop
  obtain ⟨v3,vs3,rfl,s6⟩:=ahS s5.drop
  obtain ⟨v4,vs4,rfl,s7⟩:=ahS s6.drop
  have s8:Sat B w (pcS SR1.kt (.row 1 x.stack) v4::_):=s7
  obtain ⟨hh',Hh',k1,k2,ka,ke,h4,hL4⟩:=s8
  rw [aax] at h4
  obtain ⟨A,cap,rfl,hr⟩:=h4
  have s9:Sat B w (rwS SR1.kt 1 x.stack A cap::_):=⟨hh',Hh',k1,k2,ka,ke,hr,hL4⟩
  have hsl:=(arJ (ar0 (K:=SR1.kt) (c:=1) rfl (by decide) s9) List.mem_cons_self).1
  have hc:=(s1.cell (i:=4) (v:=.slice A x.stack.length cap) rfl).2.1
  refine (aAo w q1 q2 A cap x.stack hc hsl hn).mono fun e w' ⟨⟨A',c',he,hown⟩,hb'⟩ =>⟨_,he,hb',?_⟩
  exact ahg (S:=SR1) (c:=1) (fun _ =>rfl) (ahG hs0 hb' hB hown)
 all_goals
  obtain ⟨q,rfl,_⟩:=(aiX (K:=SR1.kt) rfl).1 h1
  exact (awn w _ _ (Nat.ne_of_beq_eq_false (by kernel_rfl))).mono fun e w' ⟨he,hw⟩ =>⟨_,he,by rw [hw]; exact Below.refl _ _,by rw [hw]; exact nil (m':=.nil) rfl hs0⟩
theorem arI:CO Tryz.prog ajl:=fun x out hx B W hg vs F w hw =>by
 obtain ⟨hb,hB,hs⟩:=hw
 obtain ⟨m,u⟩:=x
 have hx:ahH m=some out:=hx
 unfold ahH at hx
 split at hx
 case isFalse =>cases hx
 rename_i hn
 cases hx
 show afA Tryz.prog ajl.f _ w _
 rw [adG rfl]
 rcases vs with _ | ⟨v,_ | ⟨v2,vs⟩⟩
 ·exact aaA hs
 ·have hs0:Sat B w (pcS SR1.kt (.mach m) v::[F]):=hs
  exact (aAq hn hB hs0).mono fun e w' ⟨u,he,hb',s⟩ =>⟨[u],he,hb.trans (hb'.mono hB),Nat.le_trans hB hb'.size,s⟩
 ·replace hs:Sat B w (pcS SR1.kt (.mach m) v::([fun _ =>False]++[F])):=hs
  exact aaA hs.drop
abbrev aja (xs:List AccV) (i:Int):AccV:=atL (dfR 60:TR 60) xs i
noncomputable def apS (b:List Int):Option ((List EntV×Unit)×(Unit)) :=
 (lpF (σ:=List EntV×Int×Unit) (β:=List EntV×Int×Unit) (fun self3 x1 =>
 if (wi (x1.2.1+1))<((b.length:Nat):Int) then
 if ((x1.1.length:Nat):Int)<65536 then
 if 0≤x1.2.1∧x1.2.1<((b.length:Nat):Int) then
 if 0≤wi (x1.2.1+1)∧wi (x1.2.1+1)<((b.length:Nat):Int) then
 if (aj8 b (wi (x1.2.1+1)))=(aj8 b (wi (x1.2.1+1))) then
 if (aj8 b x1.2.1)=(aj8 b x1.2.1) then
 if (Int.tmod (wi (aj8 b x1.2.1)) 4)=1 then
 if (((x1.1.length+([(⟨(Int.tmod (wi (aj8 b x1.2.1)) 4),0⟩:EntV)]:List EntV).length:Nat)):Int)<1000000000000 then
 self3 (x1.1++([(⟨(Int.tmod (wi (aj8 b x1.2.1)) 4),0⟩:EntV)]),wi (x1.2.1+2),())
 else none
 else
 if (Int.tmod (wi (aj8 b x1.2.1)) 4)=3 then
 if (((x1.1.length+([(⟨(Int.tmod (wi (aj8 b x1.2.1)) 4),0⟩:EntV)]:List EntV).length:Nat)):Int)<1000000000000 then
 self3 (x1.1++([(⟨(Int.tmod (wi (aj8 b x1.2.1)) 4),0⟩:EntV)]),wi (x1.2.1+2),())
 else none
 else
 if (((x1.1.length+([(⟨(Int.tmod (wi (aj8 b x1.2.1)) 4),wi (aj8 b (wi (x1.2.1+1)))⟩:EntV)]:List EntV).length:Nat)):Int)<1000000000000 then
 self3 (x1.1++([(⟨(Int.tmod (wi (aj8 b x1.2.1)) 4),wi (aj8 b (wi (x1.2.1+1)))⟩:EntV)]),wi (x1.2.1+2),())
 else none
 else none
 else none
 else none
 else none
 else
 some (x1.1,x1.2.1,())
 else
 some (x1.1,x1.2.1,())
 ) 18446744073709551616 ([],0,())).bind fun z2 =>
 some ((z2.1,()),())
noncomputable abbrev ar5:Con SR1:=⟨22,[.sh (.ro 17)],[.sh (.row 5)],fun x =>apS x.1⟩
theorem awy:CO Tryz.prog ar5:=aal aai Tryz.func22 [] trivial [(3,.loop [.rg 3 (.row 5),.rg 4 sI_] 18446744073709551616 0)]
noncomputable def al5 (b:List Int) (n:Int):Option ((List EntV×Unit)×(Unit)) :=
 (apS b).bind fun r1 =>
 if n<((r1.1.1.length:Nat):Int) then
 if 0≤n∧n≤((r1.1.1.length:Nat):Int) then
 some ((r1.1.1.take (n:Int).toNat,()),())
 else none
 else
 some ((r1.1.1,()),())
noncomputable abbrev akG:Con SR1:=⟨8,[.sh (.ro 17),.sh sI_],[.sh (.row 5)],fun x =>al5 x.1 x.2.1⟩
theorem ale:CO Tryz.prog akG:=aal aai Tryz.func8 [ar5] ⟨awy,trivial⟩
noncomputable def adt (y0:List Int) (y1:List Int):Option ((Bool×Unit)×(Unit)) :=
 if ((y0.length:Nat):Int)≠((y1.length:Nat):Int) then
 some ((false,()),())
 else
 (lpF (σ:=Int×Unit) (β:=(Int×Unit)⊕((Bool×Unit)×(Unit))) (fun self3 x1 =>
 if x1.1<((y0.length:Nat):Int) then
 if 0≤x1.1∧x1.1<((y0.length:Nat):Int) then
 if 0≤x1.1∧x1.1<((y1.length:Nat):Int) then
 if (agR y0 x1.1)≠(agR y1 x1.1) then
 Option.map Sum.inr (
 some ((false,()),())
 )
 else
 self3 (wi (x1.1+1),())
 else none
 else none
 else
 some (Sum.inl (x1.1,()))
 ) 18446744073709551616 (0,())).bind fun z2 =>match z2 with
 | .inr o4 =>some o4
 | .inl z2 =>
 some ((true,()),())
noncomputable abbrev acQ:Con SR1:=⟨27,[.sh (.ro 0),.sh (.ro 0)],[.sh .b],fun x =>adt x.1 x.2.1⟩
theorem ads:CO Tryz.prog acQ:=aal aai Tryz.func27 [] trivial [(4,.loopR [.rg 5 sI_] 18446744073709551616 0)]
noncomputable def aby (y0:Int) (y1:Int):Option ((Int×Unit)×(Unit)) :=
 if y1<1 then
 some ((0,()),())
 else
 if y1≠0 then
 if (Int.tmod y0 y1)<0 then
 if y1≠0 then
 some ((wi ((Int.tmod y0 y1)+y1),()),())
 else none
 else
 if y1≠0 then
 some (((Int.tmod y0 y1),()),())
 else none
 else none
noncomputable abbrev ab9:Con SR1:=⟨13,[.sh sI_,.sh sI_],[.sh sI_],fun x =>aby x.1 x.2.1⟩
theorem acr:CO Tryz.prog ab9:=aal aai Tryz.func13 [] trivial
noncomputable def ad8 (y0:List Int) (y1:Int) (y2:Int):Option ((Int×Unit)×(Unit)) :=
 if ((y0.length:Nat):Int)=0 then
 some ((0,()),())
 else
 if ((y0.length:Nat):Int)≠0 then
 if 0≤(Int.tmod y1 ((y0.length:Nat):Int))∧(Int.tmod y1 ((y0.length:Nat):Int))<((y0.length:Nat):Int) then
 if ((y0.length:Nat):Int)≠0 then
 if (wi (1+(Int.tmod (wi (Int.tdiv y1 ((y0.length:Nat):Int))) 7)))≠0 then
 (aby (wi (Int.tdiv (acg y0 (Int.tmod y1 ((y0.length:Nat):Int))) (wi (1+(Int.tmod (wi (Int.tdiv y1 ((y0.length:Nat):Int))) 7))))) y2).bind fun r1 =>
 some ((r1.1.1,()),())
 else none
 else none
 else none
 else none
noncomputable abbrev acv:Con SR1:=⟨19,[.sh (.ro 1),.sh sI_,.sh sI_],[.sh sI_],fun x =>ad8 x.1 x.2.1 x.2.2.1⟩
theorem adi:CO Tryz.prog acv:=aal aai Tryz.func19 [ab9] ⟨acr,trivial⟩
noncomputable def acM (y0:List St) (y1:Int):Option ((List Ev×Unit)×(Unit)) :=
 (lpF (σ:=List Ev×Int×Unit) (β:=List Ev×Int×Unit) (fun self3 x1 =>
 if x1.2.1<((y0.length:Nat):Int) then
 if 0≤x1.2.1∧x1.2.1<((y0.length:Nat):Int) then
 if ((axy y0 x1.2.1).ev.worker)=y1 then
 if 0≤x1.2.1∧x1.2.1<((y0.length:Nat):Int) then
 if (((x1.1.length+([(⟨(axy y0 x1.2.1).ev.kind,(axy y0 x1.2.1).ev.worker,(axy y0 x1.2.1).ev.task,(axy y0 x1.2.1).ev.other,(axy y0 x1.2.1).ev.level⟩:Ev)]:List Ev).length:Nat)):Int)<1000000000000 then
 self3 (x1.1++([(⟨(axy y0 x1.2.1).ev.kind,(axy y0 x1.2.1).ev.worker,(axy y0 x1.2.1).ev.task,(axy y0 x1.2.1).ev.other,(axy y0 x1.2.1).ev.level⟩:Ev)]),wi (x1.2.1+1),())
 else none
 else none
 else
 self3 (x1.1,wi (x1.2.1+1),())
 else none
 else
 some (x1.1,x1.2.1,())
 ) 18446744073709551616 ([],0,())).bind fun z2 =>
 some ((z2.1,()),())
noncomputable abbrev adu:Con SR1:=⟨34,[.sh (.ro 6),.sh sI_],[.sh (.row 2)],fun x =>acM x.1 x.2.1⟩
theorem ad7:CO Tryz.prog adu:=aal aai Tryz.func34 [] trivial [(3,.loop [.rg 5 (.row 2),.rg 6 sI_] 18446744073709551616 0)]
noncomputable def adR (y0:(WorkerV MV)):Option ((List Int×Unit)×((WorkerV MV)×Unit)) :=
 if y0.line≠7 then
 some (([],()),(y0,()))
 else
 (ahH y0.inside).bind fun r1 =>
 some ((r1.1.1,()),(({ y0 with inside:=r1.2.1 }:(WorkerV MV)),()))
noncomputable abbrev ac7:Con SR1:=⟨48,[.ref 31],[.sh (.row 1)],fun x =>adR x.1⟩
theorem adO:CO Tryz.prog ac7:=aal aai Tryz.func48 [ajl] ⟨arI,trivial⟩
noncomputable def adH (y0:AccV) (y1:AccV):Option ((Bool×Unit)×(Unit)) :=
 if y0.kind=0 then
 some ((true,()),())
 else
 if y1.kind=0 then
 some ((true,()),())
 else
 if y0.cell≠y1.cell then
 some ((true,()),())
 else
 if y0.kind=1 then
 some ((decide (y1.kind=1),()),())
 else
 some ((false,()),())
noncomputable abbrev abm:Con SR1:=⟨20,[.val 60,.val 60],[.sh .b],fun x =>adH x.1 x.2.1⟩
theorem abQ:CO Tryz.prog abm:=aal aai Tryz.func20 [] trivial
noncomputable def aaU (y0:Int):Option ((EntV×Unit)×(Unit)) :=
 some (((⟨0,y0⟩:EntV),()),())
noncomputable abbrev aci:Con SR1:=⟨17,[.sh sI_],[.val 5],fun x =>aaU x.1⟩
theorem acR:CO Tryz.prog aci:=aal aai Tryz.func17 [] trivial
noncomputable def abI (y0:Cfg):Option ((List EntV×Unit)×(Unit)) :=
 (lpF (σ:=List EntV×Int×Unit) (β:=List EntV×Int×Unit) (fun self3 x1 =>
 if x1.2.1<(wi (40*((y0.subs.length:Nat):Int))) then
 (aaU y0.workers).bind fun r4 =>
 if (((x1.1.length+([r4.1.1]:List EntV).length:Nat)):Int)<1000000000000 then
 self3 (x1.1++([r4.1.1]),wi (x1.2.1+1),())
 else none
 else
 some (x1.1,x1.2.1,())
 ) 18446744073709551616 ([],0,())).bind fun z2 =>
 some ((z2.1,()),())
noncomputable abbrev acu:Con SR1:=⟨9,[.val 13],[.sh (.row 5)],fun x =>abI x.1⟩
theorem adh:CO Tryz.prog acu:=aal aai Tryz.func9 [aci] ⟨acR,trivial⟩ [(3,.loop [.rg 3 (.row 5),.rg 4 sI_] 18446744073709551616 0)]
noncomputable def acI (y0:AccV) (y1:AccV):Option ((Bool×Unit)×(Unit)) :=
 if y0.kind=0 then
 some ((true,()),())
 else
 if y1.kind=0 then
 some ((true,()),())
 else
 if y0.cell≠y1.cell then
 some ((true,()),())
 else
 if y0.kind=1 then
 some ((decide (y1.kind=1),()),())
 else
 some ((false,()),())
noncomputable abbrev aca:Con SR1:=⟨25,[.val 60,.val 60],[.sh .b],fun x =>acI x.1 x.2.1⟩
theorem acz:CO Tryz.prog aca:=aal aai Tryz.func25 [] trivial
noncomputable def aaN (y0:List Int) (y1:List Int):Option ((Bool×Unit)×(Unit)) :=
 if ((y0.length:Nat):Int)≠((y1.length:Nat):Int) then
 some ((false,()),())
 else
 (lpF (σ:=Int×Unit) (β:=(Int×Unit)⊕((Bool×Unit)×(Unit))) (fun self3 x1 =>
 if x1.1<((y0.length:Nat):Int) then
 if 0≤x1.1∧x1.1<((y0.length:Nat):Int) then
 if 0≤x1.1∧x1.1<((y1.length:Nat):Int) then
 if (acg y0 x1.1)≠(acg y1 x1.1) then
 Option.map Sum.inr (
 some ((false,()),())
 )
 else
 self3 (wi (x1.1+1),())
 else none
 else none
 else
 some (Sum.inl (x1.1,()))
 ) 18446744073709551616 (0,())).bind fun z2 =>match z2 with
 | .inr o4 =>some o4
 | .inl z2 =>
 some ((true,()),())
noncomputable abbrev ab8:Con SR1:=⟨12,[.sh (.ro 1),.sh (.ro 1)],[.sh .b],fun x =>aaN x.1 x.2.1⟩
theorem acq:CO Tryz.prog ab8:=aal aai Tryz.func12 [] trivial [(4,.loopR [.rg 5 sI_] 18446744073709551616 0)]
def aCR {α:Type} (x:A64) (i:Int) (K:Int→Option α):Option α :=
 if i=((63:Nat):Int) then K x.a63 else
 if i=((62:Nat):Int) then K x.a62 else
 if i=((61:Nat):Int) then K x.a61 else
 if i=((60:Nat):Int) then K x.a60 else
 if i=((59:Nat):Int) then K x.a59 else
 if i=((58:Nat):Int) then K x.a58 else
 if i=((57:Nat):Int) then K x.a57 else
 if i=((56:Nat):Int) then K x.a56 else
 if i=((55:Nat):Int) then K x.a55 else
 if i=((54:Nat):Int) then K x.a54 else
 if i=((53:Nat):Int) then K x.a53 else
 if i=((52:Nat):Int) then K x.a52 else
 if i=((51:Nat):Int) then K x.a51 else
 if i=((50:Nat):Int) then K x.a50 else
 if i=((49:Nat):Int) then K x.a49 else
 if i=((48:Nat):Int) then K x.a48 else
 if i=((47:Nat):Int) then K x.a47 else
 if i=((46:Nat):Int) then K x.a46 else
 if i=((45:Nat):Int) then K x.a45 else
 if i=((44:Nat):Int) then K x.a44 else
 if i=((43:Nat):Int) then K x.a43 else
 if i=((42:Nat):Int) then K x.a42 else
 if i=((41:Nat):Int) then K x.a41 else
 if i=((40:Nat):Int) then K x.a40 else
 if i=((39:Nat):Int) then K x.a39 else
 if i=((38:Nat):Int) then K x.a38 else
 if i=((37:Nat):Int) then K x.a37 else
 if i=((36:Nat):Int) then K x.a36 else
 if i=((35:Nat):Int) then K x.a35 else
 if i=((34:Nat):Int) then K x.a34 else
 if i=((33:Nat):Int) then K x.a33 else
 if i=((32:Nat):Int) then K x.a32 else
 if i=((31:Nat):Int) then K x.a31 else
 if i=((30:Nat):Int) then K x.a30 else
 if i=((29:Nat):Int) then K x.a29 else
 if i=((28:Nat):Int) then K x.a28 else
 if i=((27:Nat):Int) then K x.a27 else
 if i=((26:Nat):Int) then K x.a26 else
 if i=((25:Nat):Int) then K x.a25 else
 if i=((24:Nat):Int) then K x.a24 else
 if i=((23:Nat):Int) then K x.a23 else
 if i=((22:Nat):Int) then K x.a22 else
 if i=((21:Nat):Int) then K x.a21 else
 if i=((20:Nat):Int) then K x.a20 else
 if i=((19:Nat):Int) then K x.a19 else
 if i=((18:Nat):Int) then K x.a18 else
 if i=((17:Nat):Int) then K x.a17 else
 if i=((16:Nat):Int) then K x.a16 else
 if i=((15:Nat):Int) then K x.a15 else
 if i=((14:Nat):Int) then K x.a14 else
 if i=((13:Nat):Int) then K x.a13 else
 if i=((12:Nat):Int) then K x.a12 else
 if i=((11:Nat):Int) then K x.a11 else
 if i=((10:Nat):Int) then K x.a10 else
 if i=((9:Nat):Int) then K x.a9 else
 if i=((8:Nat):Int) then K x.a8 else
 if i=((7:Nat):Int) then K x.a7 else
 if i=((6:Nat):Int) then K x.a6 else
 if i=((5:Nat):Int) then K x.a5 else
 if i=((4:Nat):Int) then K x.a4 else
 if i=((3:Nat):Int) then K x.a3 else
 if i=((2:Nat):Int) then K x.a2 else
 if i=((1:Nat):Int) then K x.a1 else
 if i=((0:Nat):Int) then K x.a0 else none
def aK1 {α:Type} (x:A64) (i:Int) (g:Prop) [Decidable g] (f:Int→Int) (K:A64→Option α):Option α :=
 if i=((63:Nat):Int) then if g then K { x with a63:=f x.a63 } else none else
 if i=((62:Nat):Int) then if g then K { x with a62:=f x.a62 } else none else
 if i=((61:Nat):Int) then if g then K { x with a61:=f x.a61 } else none else
 if i=((60:Nat):Int) then if g then K { x with a60:=f x.a60 } else none else
 if i=((59:Nat):Int) then if g then K { x with a59:=f x.a59 } else none else
 if i=((58:Nat):Int) then if g then K { x with a58:=f x.a58 } else none else
 if i=((57:Nat):Int) then if g then K { x with a57:=f x.a57 } else none else
 if i=((56:Nat):Int) then if g then K { x with a56:=f x.a56 } else none else
 if i=((55:Nat):Int) then if g then K { x with a55:=f x.a55 } else none else
 if i=((54:Nat):Int) then if g then K { x with a54:=f x.a54 } else none else
 if i=((53:Nat):Int) then if g then K { x with a53:=f x.a53 } else none else
 if i=((52:Nat):Int) then if g then K { x with a52:=f x.a52 } else none else
 if i=((51:Nat):Int) then if g then K { x with a51:=f x.a51 } else none else
 if i=((50:Nat):Int) then if g then K { x with a50:=f x.a50 } else none else
 if i=((49:Nat):Int) then if g then K { x with a49:=f x.a49 } else none else
 if i=((48:Nat):Int) then if g then K { x with a48:=f x.a48 } else none else
 if i=((47:Nat):Int) then if g then K { x with a47:=f x.a47 } else none else
 if i=((46:Nat):Int) then if g then K { x with a46:=f x.a46 } else none else
 if i=((45:Nat):Int) then if g then K { x with a45:=f x.a45 } else none else
 if i=((44:Nat):Int) then if g then K { x with a44:=f x.a44 } else none else
 if i=((43:Nat):Int) then if g then K { x with a43:=f x.a43 } else none else
 if i=((42:Nat):Int) then if g then K { x with a42:=f x.a42 } else none else
 if i=((41:Nat):Int) then if g then K { x with a41:=f x.a41 } else none else
 if i=((40:Nat):Int) then if g then K { x with a40:=f x.a40 } else none else
 if i=((39:Nat):Int) then if g then K { x with a39:=f x.a39 } else none else
 if i=((38:Nat):Int) then if g then K { x with a38:=f x.a38 } else none else
 if i=((37:Nat):Int) then if g then K { x with a37:=f x.a37 } else none else
 if i=((36:Nat):Int) then if g then K { x with a36:=f x.a36 } else none else
 if i=((35:Nat):Int) then if g then K { x with a35:=f x.a35 } else none else
 if i=((34:Nat):Int) then if g then K { x with a34:=f x.a34 } else none else
 if i=((33:Nat):Int) then if g then K { x with a33:=f x.a33 } else none else
 if i=((32:Nat):Int) then if g then K { x with a32:=f x.a32 } else none else
 if i=((31:Nat):Int) then if g then K { x with a31:=f x.a31 } else none else
 if i=((30:Nat):Int) then if g then K { x with a30:=f x.a30 } else none else
 if i=((29:Nat):Int) then if g then K { x with a29:=f x.a29 } else none else
 if i=((28:Nat):Int) then if g then K { x with a28:=f x.a28 } else none else
 if i=((27:Nat):Int) then if g then K { x with a27:=f x.a27 } else none else
 if i=((26:Nat):Int) then if g then K { x with a26:=f x.a26 } else none else
 if i=((25:Nat):Int) then if g then K { x with a25:=f x.a25 } else none else
 if i=((24:Nat):Int) then if g then K { x with a24:=f x.a24 } else none else
 if i=((23:Nat):Int) then if g then K { x with a23:=f x.a23 } else none else
 if i=((22:Nat):Int) then if g then K { x with a22:=f x.a22 } else none else
 if i=((21:Nat):Int) then if g then K { x with a21:=f x.a21 } else none else
 if i=((20:Nat):Int) then if g then K { x with a20:=f x.a20 } else none else
 if i=((19:Nat):Int) then if g then K { x with a19:=f x.a19 } else none else
 if i=((18:Nat):Int) then if g then K { x with a18:=f x.a18 } else none else
 if i=((17:Nat):Int) then if g then K { x with a17:=f x.a17 } else none else
 if i=((16:Nat):Int) then if g then K { x with a16:=f x.a16 } else none else
 if i=((15:Nat):Int) then if g then K { x with a15:=f x.a15 } else none else
 if i=((14:Nat):Int) then if g then K { x with a14:=f x.a14 } else none else
 if i=((13:Nat):Int) then if g then K { x with a13:=f x.a13 } else none else
 if i=((12:Nat):Int) then if g then K { x with a12:=f x.a12 } else none else
 if i=((11:Nat):Int) then if g then K { x with a11:=f x.a11 } else none else
 if i=((10:Nat):Int) then if g then K { x with a10:=f x.a10 } else none else
 if i=((9:Nat):Int) then if g then K { x with a9:=f x.a9 } else none else
 if i=((8:Nat):Int) then if g then K { x with a8:=f x.a8 } else none else
 if i=((7:Nat):Int) then if g then K { x with a7:=f x.a7 } else none else
 if i=((6:Nat):Int) then if g then K { x with a6:=f x.a6 } else none else
 if i=((5:Nat):Int) then if g then K { x with a5:=f x.a5 } else none else
 if i=((4:Nat):Int) then if g then K { x with a4:=f x.a4 } else none else
 if i=((3:Nat):Int) then if g then K { x with a3:=f x.a3 } else none else
 if i=((2:Nat):Int) then if g then K { x with a2:=f x.a2 } else none else
 if i=((1:Nat):Int) then if g then K { x with a1:=f x.a1 } else none else
 if i=((0:Nat):Int) then if g then K { x with a0:=f x.a0 } else none else none
@[reducible] def aIz (a b : Int) : Int := IntKind.u64.wrap (BitVec.ofInt IntKind.u64.bits a &&& ~~~ BitVec.ofInt IntKind.u64.bits b).toNat
abbrev sh1 (i:Int):Int:=wu (1*2 ^ min (wu i:Int).toNat IntKind.u64.bits)
def aCy {α:Type} (a:A64) (j i:Int) (K:A64→Option α):Option α :=
 aK1 a j (0≤wu i) (fun v =>orU v (sh1 i)) K
noncomputable def aIv (ac:List AccV) (ms:List Int) (j:Int) (self:Int×A64×Unit→Option (Int×A64×Unit)) (x:Int×A64×Unit):Option (Int×A64×Unit) :=
 if x.1<j then
 if 0≤x.1∧x.1<((ms.length:Nat):Int) then
 if 0≤j∧j<((ms.length:Nat):Int) then
 if (acg ms x.1)=(acg ms j) then aCy x.2.1 j x.1 fun a =>self (wi (x.1+1),a,())
 else
 if 0≤x.1∧x.1<((ac.length:Nat):Int) then
 if 0≤j∧j<((ac.length:Nat):Int) then
 (acI (aja ac x.1) (aja ac j)).bind fun r =>
 if (!r.1.1)=true then aCy x.2.1 j x.1 fun a =>self (wi (x.1+1),a,())
 else self (wi (x.1+1),x.2.1,())
 else none
 else none
 else none
 else none
 else some (x.1,x.2.1,())
noncomputable def axu (c:Cfg) (ac:List AccV) (y2:List Int) (self:Int×List Int×A64×Unit→Option (Int×List Int×A64×Unit)) (x:Int×List Int×A64×Unit):Option (Int×List Int×A64×Unit) :=
 if x.1<((y2.length:Nat):Int) then
 if 0≤x.1∧x.1<((y2.length:Nat):Int) then
 (avc (acg y2 x.1) (wi (c.workers+1))).bind fun r =>
 if 0≤x.1∧x.1<((x.2.1.length:Nat):Int) then
 (lpF (aIv ac (x.2.1.set x.1.toNat r.1.1) x.1) 18446744073709551616 (0,x.2.2.1,())).bind fun z =>
 self (wi (x.1+1),x.2.1.set x.1.toNat r.1.1,z.2.1,())
 else none
 else none
 else some (x.1,x.2.1,x.2.2.1,())
noncomputable def axv (ms:List Int) (nd:A64) (done:Int) (self:Int×Int×Unit→Option (Int×Int×Unit)) (x:Int×Int×Unit):Option (Int×Int×Unit) :=
 if x.2.1<((ms.length:Nat):Int) then
 if 0≤x.2.1∧x.2.1<((ms.length:Nat):Int) then
 if 0≤wu (x.2.1) then
 if (aoG (Int.fdiv done (2 ^ min (wu (x.2.1):Int).toNat IntKind.u64.bits)) 1)=0 then
 aCR nd x.2.1 fun v =>
 if (aIz v done)=0 then
 if x.1<0 then self (x.2.1,wi (x.2.1+1),())
 else
 if 0≤x.1∧x.1<((ms.length:Nat):Int) then
 if (acg ms x.2.1)<(acg ms x.1) then self (x.2.1,wi (x.2.1+1),())
 else self (x.1,wi (x.2.1+1),())
 else none
 else self (x.1,wi (x.2.1+1),())
 else self (x.1,wi (x.2.1+1),())
 else none
 else none
 else some (x.1,x.2.1,())
noncomputable def axt (y2 ms:List Int) (nd:A64) (self:List Int×Int×Int×Unit→Option (List Int×Int×Int×Unit)) (x:List Int×Int×Int×Unit):Option (List Int×Int×Int×Unit) :=
 if x.2.2.1<((y2.length:Nat):Int) then
 (lpF (axv ms nd x.2.1) 18446744073709551616 ((-1),0,())).bind fun z =>
 if 0≤wu (z.1) then
 if 0≤z.1∧z.1<((ms.length:Nat):Int) then
 if (((x.1.length+([acg ms z.1]:List Int).length:Nat)):Int)<1000000000000 then
 self (x.1++([acg ms z.1]),orU x.2.1 (sh1 z.1),wi (x.2.2.1+1),())
 else none
 else none
 else none
 else some (x.1,x.2.1,x.2.2.1,())
noncomputable def aF7 (c:Cfg) (y2:List Int) (r1:(List AccV×Int×Unit)×(Unit)):Option ((List Int×Int×Unit)×(Unit)) :=
 if r1.1.2.1≠0 then some (([],r1.1.2.1,()),())
 else
 if ((y2.length:Nat):Int)=((y2.length:Nat):Int) then
 if 0≤((y2.length:Nat):Int)∧((y2.length:Nat):Int)≤1099511627776 then
 (lpF (axu c r1.1.1 y2) 18446744073709551616 (0,List.replicate (((y2.length:Nat):Int):Int).toNat (0:Int),(⟨0,0,0,0,0,0,0,0,0,0,0,0,0,0,0,0,0,0,0,0,0,0,0,0,0,0,0,0,0,0,0,0,0,0,0,0,0,0,0,0,0,0,0,0,0,0,0,0,0,0,0,0,0,0,0,0,0,0,0,0,0,0,0,0⟩:A64),())).bind fun z3 =>
 (lpF (axt y2 z3.2.1 z3.2.2.1) 18446744073709551616 ([],0,0,())).bind fun z11 =>
 some ((z11.1,0,()),())
 else none
 else none
end
end Go.Proofs.YtidhehdanppcoaaGreat
