/- What a step depends on: Run,a worker,the client; whose records it touches. Two independent steps,in either order. Runs of steps of which some commute: the canonical order. No program occurs here. An engine's machines as a system of steps that commute. What the law calls,in the evaluator's form. An engine's loops,Done and Events by names. An engine's loops,for any invariant of its machines. -/
import Derived.Test.YtidhehdanppcoaaGreatCaan
import Derived.Test.YtidhehdanppcoaaGreatCaap
import Derived.Test.YtidhehdanppcoaaGreatCaaa
import Derived.Test.YtidhehdanppcoaaGreatCaal
set_option linter.all false
namespace Go.Proofs.YtidhehdanppcoaaGreat
section
open Go Go.RowKit
set_option maxRecDepth 100000
variable [Tb]
def Own (c:Cfg) (e:EnvP) (v:Vw) (D:Dl) (t:Int):Prop:=TOk c t∧(Hd v t∨(Stt c e t=1∧D.ad=some (3,aaN (aav c) t))∨(D.ad=some (6,0)∧t=wi (e.gt 0)))
structure Ow (c:Cfg) (e:EnvP) (w:Int) (v:Vw) (D:Dl):Prop where
 rd:∀ t∈D.rd,Own c e v D t
 rs:∀ p∈D.rs,p.1∈D.rd
 es:∀ x∈D.es,x.worker=w
 k:aDB e D
section
variable {c:Cfg} {e f:EnvP} {X Y σ:Type} {S:EnvP→X×EnvP} {T:EnvP→Y×EnvP} {P Q:Dl→Prop} {w k a t:Int} {v:Vw}
theorem Loc.mono (h:Loc P S e) (hp:∀ D,P D→Q D):Loc Q S e:=by
 obtain ⟨s,D,h1,h2,h3⟩:=h
 exact ⟨s,D,h1,hp D h2,h3⟩
theorem Loc.lf (h:Loc (Lf e w) S e):Loc (Ow c e w v) S e:=h.mono fun D h =>⟨fun t k =>(by rw [h.rd] at k; cases k),fun p k =>(by rw [h.rs] at k; cases k),h.es,h.k⟩
theorem Ag.refl {D:Dl}:Ag D e e:=⟨.refl,fun _ _ _ =>rfl,fun _ _ =>rfl⟩
theorem Loc.of (D:Dl) (s:X) (hp:P D) (h:∀ f,Ag D e f→S f=(s,ap D f)):Loc P S e:=⟨s,D,h e .refl,hp,h⟩
theorem Loc.mapP {S:EnvP→X×EnvP} (h:Loc P S e) (y:X→Y) (hT:∀ f,Bs e f→T f=(y (S f).1,(S f).2)):Loc P T e:=by
 obtain ⟨s,D,h1,h2,h3⟩:=h
 exact ⟨y s,D,by rw [hT e .refl,h1],h2,fun f hf =>by rw [hT f hf.b,h3 f hf]⟩
theorem Loc.gfP {S:EnvP→Rs σ×EnvP} {A:σ→Y} {B:Int→Int→Y} (h:Loc P S e) (h1:∀ f,Bs e f→∀ s e',S f=(.go s,e')→T f=(A s,e')) (h2:∀ f,Bs e f→∀ c x e',S f=(.fin c x,e')→T f=(B c x,e')):Loc P T e :=
 .mapP h (fun r =>match r with
  | .go s =>A s
  | .fin c x =>B c x) fun f b =>by
  generalize hS:S f=p
  obtain ⟨r,e'⟩:=p
  cases r with
  | go s =>exact h1 f b s e' hS
  | fin c x =>exact h2 f b c x e' hS
theorem amf (h:MI c e) (ht:TOk c t) (y:Bool→X):Loc (Ow c e w v) (fun e =>(y (acN t e),aeb w t e)) e:=by
 have hb:∀ {D:Dl} {f:EnvP},D.ad=some (3,aaN e.l t)→Ag D e f→acN t f=acN t e:=fun {D f} hd b =>by
  unfold acN EnvP.hit; rw [b.b.l]; exact b.b.hit (b.g _ _ hd)
 by_cases hc:acN t e=true
 ·have hs:Stt c e t=1:=by
   have:=(atZ (e:=e) (a:=aaN e.l t) (o:=1) hc).1
   rw [h.l] at this; exact this
  by_cases hr:(e.rc t).started=true
  ·refine .of ⟨some (3,aaN e.l t),if e.m.gt (aaN e.l t)=1 then 2 else e.m.gt (aaN e.l t),[t],[],[⟨9,w,t,0,0⟩]⟩ (y true) ⟨fun u hu =>?_,fun p hp =>(by cases hp),ag6 rfl,fun _ _ q =>.inr (by cases q; decide)⟩ fun f b =>?_
   ·rw [List.mem_singleton.1 hu]; exact ⟨ht,.inr (.inl ⟨hs,by rw [h.l]⟩)⟩
   ·have hbf:=(hb rfl b).trans hc
    show (y (acN t f),aeb w t f)=_
    rw [hbf]
    unfold aeb
    rw [if_pos hbf,b.q t (List.mem_singleton.2 rfl),if_pos hr,b.b.l]
    exact congrArg (Prod.mk (y true)) (axt (es:=[⟨9,w,t,0,0⟩]) (b.g _ _ rfl))
  ·refine .of ⟨some (3,aaN e.l t),if e.m.gt (aaN e.l t)=1 then 2 else e.m.gt (aaN e.l t),[t],[(t,{ e.rc t with started:=true })],[⟨5,w,t,0,0⟩]⟩ (y true) ⟨fun u hu =>?_,fun p hp =>?_,ag6 rfl,fun _ _ q =>.inr (by cases q; decide)⟩ fun f b =>?_
   ·rw [List.mem_singleton.1 hu]; exact ⟨ht,.inr (.inl ⟨hs,by rw [h.l]⟩)⟩
   ·rw [List.mem_singleton.1 hp]; exact List.mem_singleton.2 rfl
   ·have hbf:=(hb rfl b).trans hc
    show (y (acN t f),aeb w t f)=_
    rw [hbf]
    unfold aeb
    rw [if_pos hbf,b.q t (List.mem_singleton.2 rfl),if_neg hr,b.b.l]
    unfold EnvP.cas MemV.cas
    rw [b.g _ _ rfl]
    rfl
 ·refine .of ⟨some (3,aaN e.l t),if e.m.gt (aaN e.l t)=1 then 2 else e.m.gt (aaN e.l t),[],[],[⟨15,w,t,0,0⟩]⟩ (y false) ⟨fun u hu =>(by cases hu),fun p hp =>(by cases hp),ag6 rfl,fun _ _ q =>.inr (by cases q; decide)⟩ fun f b =>?_
  have hbf:acN t f=false:=(hb rfl b).trans (Bool.eq_false_iff.2 hc)
  show (y (acN t f),aeb w t f)=_
  rw [hbf]
  unfold aeb
  rw [if_neg (by rw [hbf]; exact Bool.false_ne_true),b.b.l]
  exact congrArg (Prod.mk (y false)) (axt (es:=[⟨15,w,t,0,0⟩]) (b.g _ _ rfl))
theorem aJR (b:Bs e f) {x:RecP}:f.prog x=e.prog x:=by unfold EnvP.prog; rw [b.c]
theorem aCu {r:RunS} (ht:TOk c t) (hd:Hd v t) (hcc:e.c=c):Loc (Ow c e w v) (fun e =>an4 w e r t (e.rc t) (e.prog (e.rc t))) e:=by
 have ow:∀ {ad:Option (Int×Int)} {x:Int} {rs:List (Int×RecP)} {es:List Ev},(∀ k a,ad=some (k,a)→2≤k)→(∀ p∈rs,p.1=t)→(∀ x∈es,x.worker=w)→Ow c e w v ⟨ad,x,[t],rs,es⟩:=fun h0 h1 h2 =>⟨fun u hu =>by rw [List.mem_singleton.1 hu]; exact ⟨ht,.inl hd⟩,fun p hp =>List.mem_singleton.2 (h1 p hp),h2,fun k a q =>.inr (h0 k a q)⟩
 have r1:∀ {x:RecP},∀ p∈[(t,x)],p.1=t:=fun p hp =>by rw [List.mem_singleton.1 hp]
 have r0:∀ p∈([]:List (Int×RecP)),p.1=t:=fun p hp =>by cases hp
 have k2:∀ {b:Int×Int},2≤b.1→∀ k a,some b=some (k,a)→2≤k:=fun h k a q =>by cases q; exact h
 have k0:∀ k a,(none:Option (Int×Int))=some (k,a)→2≤k:=fun k a q =>by cases q
 have pre:∀ {D:Dl} {s:Rs RunS},t∈D.rd→(∀ f,Ag D e f→an4 w f r t (e.rc t) (e.prog (e.rc t))=(s,ap D f))→∀ f,Ag D e f→an4 w f r t (f.rc t) (f.prog (f.rc t))=(s,ap D f):=fun hm h f b =>by
  rw [aJR b.b,b.q t hm]; exact h f b
 generalize hx:e.rc t=x at pre
 generalize hp:e.prog x=p at pre
 have t1:t∈[t]:=List.mem_singleton.2 rfl
 unfold an4 at pre
 by_cases h1:x.waiting ≠ -1
 ·exact .of ⟨some (2,ad9 e.l t),0,[t],[(t,{ x with waiting := -1 })],[]⟩ (.go r) (ow (k2 (by show (2:Int)≤_; first | exact Int.le_refl _ | decide)) r1 aiW) (pre t1 fun f b =>by rw [if_pos h1,b.b.l]; rfl)
 by_cases h2:x.pc<0∨(p.length:Int)≤x.pc
 ·exact .of ⟨some (2,aaN e.l t),4,[t],[],[]⟩ (.go { r with c:=.f2 }) (ow (k2 (by show (2:Int)≤_; first | exact Int.le_refl _ | decide)) r0 aiW) (pre t1 fun f b =>by rw [if_neg h1,if_pos h2,b.b.l]; rfl)
 by_cases h3:(abX p x.pc).op=0
 ·exact .of ⟨none,0,[t],[(t,asp x (abX p x.pc))],[]⟩ (.go r) (ow k0 r1 aiW) (pre t1 fun f b =>by rw [if_neg h1,if_neg h2,if_pos h3]; rfl)
 by_cases h4:(abX p x.pc).op=1
 ·have al:∀ {D:Dl} {f:EnvP},D.ad=some (6,0)→Ag D e f→f.m.gt 0=e.m.gt 0:=fun hd b =>b.g _ _ hd
  by_cases h5:IsT e (wi (e.gt 0))
  ·refine .of ⟨some (6,0),wu (e.m.gt 0+1),[t,wi (e.gt 0)],[(t,{ x with pc:=wi (x.pc+1),kids:=x.kids++[wi (e.gt 0)] }),(wi (e.gt 0),awU (abX p x.pc).a t)],[]⟩ (.go { r with id:=wi (e.gt 0),level:=(abX p x.pc).b,c:=.s2 .l1 }) ⟨fun u hu =>?_,fun q hq =>?_,aiW,fun _ _ q =>.inr (by cases q; decide)⟩ (pre (List.mem_cons_self ..) fun f b =>?_)
   ·rcases List.mem_cons.1 hu with k | k
    ·rw [k]; exact ⟨ht,.inl hd⟩
    ·rw [List.mem_singleton.1 k]
     refine ⟨?_,.inr (.inr ⟨rfl,rfl⟩)⟩
     unfold IsT at h5; rw [hcc] at h5; exact h5
   ·rcases List.mem_cons.1 hq with k | k
    ·rw [k]; exact List.mem_cons_self ..
    ·rw [List.mem_singleton.1 k]; exact List.mem_cons_of_mem _ (List.mem_singleton.2 rfl)
   ·have g:=al rfl b
    have g2:wi (f.gt 0)=wi (e.gt 0):=congrArg wi g
    rw [if_neg h1,if_neg h2,if_neg h3,if_pos h4,g2,if_pos ((alX b.b).2 h5)]
    unfold abN
    rw [show f.gt 0=e.m.gt 0 from g]
    rfl
  ·exact .of ⟨some (6,0),wu (e.m.gt 0+1),[t],[(t,{ x with pc:=wi (x.pc+1),kids:=x.kids++[-1] })],[⟨4,w,t,0,0⟩]⟩ (.go r) (ow (k2 (by show (2:Int)≤_; first | exact Int.le_refl _ | decide)) r1 (ag6 rfl)) (pre t1 fun f b =>by
    have g:=al rfl b
    have g2:wi (f.gt 0)=wi (e.gt 0):=congrArg wi g
    rw [if_neg h1,if_neg h2,if_neg h3,if_pos h4,g2,if_neg (fun k =>h5 ((alX b.b).1 k))]
    unfold abN
    rw [show f.gt 0=e.m.gt 0 from g]
    rfl)
 by_cases h6:(abX p x.pc).a<0∨(x.kids.length:Int)≤(abX p x.pc).a∨abn x.kids (abX p x.pc).a=-1
 ·exact .of ⟨none,0,[t],[(t,{ x with pc:=wi (x.pc+1) })],[]⟩ (.go r) (ow k0 r1 aiW) (pre t1 fun f b =>by rw [if_neg h1,if_neg h2,if_neg h3,if_neg h4,if_pos h6]; rfl)
 ·exact .of ⟨some (2,ad9 e.l t),wu (wi (abn x.kids (abX p x.pc).a+1)),[t],[(t,{ x with pc:=wi (x.pc+1),waiting:=abn x.kids (abX p x.pc).a })],[]⟩ (.go { r with child:=abn x.kids (abX p x.pc).a,c:=.j2 }) (ow (k2 (by show (2:Int)≤_; first | exact Int.le_refl _ | decide)) r1 aiW) (pre t1 fun f b =>by rw [if_neg h1,if_neg h2,if_neg h3,if_neg h4,if_neg h6,b.b.l]; rfl)
def azO (r:RunS):Rs RunS:=if r.stack.length=1 then .fin 0 0 else .go { r with stack:=r.stack.dropLast,c:=.next }
theorem aE1 {r:RunS} (h:MI c e) (hr:aGK c r) (hs:r.stack≠[]):Loc (Ow c e w (vwR r)) (fun e =>auB w e r) e:=by
 by_cases h0:IsT e (aaA r.stack)
 ·refine .mapP (S:=fun e =>adn w e r (aaA r.stack)) ?_ id fun f b =>if_neg (fun k =>k ((alX b).2 h0))
  have ht:TOk c (aaA r.stack):=by unfold IsT at h0; rw [h.cc] at h0; exact h0
  have hin:=auL hs
  obtain ⟨stack,id,child,level,waiter,k⟩:=r
  replace hin:aaA stack∈stack:=hin
  replace ht:TOk c (aaA stack):=ht
  show Loc _ (fun e =>adn w e _ (aaA stack)) e
  generalize hT:aaA stack=t at ht hin
  cases k with
  | next =>exact aCu ht (.inl hin) h.cc
  | s2 s =>
   refine .lf (.gfE (A:=fun s =>.go ⟨stack,id,child,level,waiter,.s2 s⟩) (B:=fun _ _ =>.go ⟨stack,id,child,level,waiter,.s3 .new⟩) (E:=fun _ _ =>[⟨3,w,id,t,level⟩]) (au1 (t:=id) (x:=level) s) (fun _ _ =>ag6 rfl) (fun f b s e' h =>by simp only [adn,h]) fun f b c x e' h =>?_)
   simp only [adn,h]; rfl
  | s3 s =>exact .lf (.gf (A:=fun s =>.go ⟨stack,id,child,level,waiter,.s3 s⟩) (B:=fun c _ =>.go ⟨stack,id,child,level,waiter,if c=3 then .s5 else .s4 (.l1 0)⟩) (ajr (v:=level) (x:=id) s) (fun f b s e' h =>by simp only [adn,h]) fun f b c x e' h =>by simp only [adn,h])
  | s4 s =>exact .lf (.gf (A:=fun s =>.go ⟨stack,id,child,level,waiter,.s4 s⟩) (B:=fun _ _ =>.go ⟨stack,id,child,level,waiter,.next⟩) (ak7 (v:=level) s) (fun f b s e' h =>by simp only [adn,h]) fun f b c x e' h =>by simp only [adn,h])
  | s5 =>exact .mapP (amf h hr fun b =>Rs.go (if b=true then (⟨stack++[id],id,child,level,waiter,.next⟩:RunS) else ⟨stack,id,child,level,waiter,.next⟩)) (fun x =>x) fun f b =>rfl
  | j2 =>exact .lf (.pt rfl fun f b g =>by simp only [adn,b.l])
  | j3 =>
   by_cases hh:e.hit (acB e.l child) 0=true
   ·exact .lf (.cs1 (if_pos hh) rfl fun f b g =>by simp only [adn,EnvP.hit,b.l,b.hit g]; exact if_pos hh)
   ·exact .lf (.cs (if_neg hh) fun f b g =>by simp only [adn,EnvP.hit,b.l,b.hit g]; exact if_neg hh)
  | j4 =>exact .lf (.ld rfl fun f b g =>by simp only [adn,EnvP.gt,b.l,g])
  | j5 s =>
   refine .lf (.gfE (A:=fun s =>.go ⟨stack,id,child,level,waiter,.j5 s⟩) (B:=fun _ _ =>azO ⟨stack,id,child,level,waiter,.j5 s⟩) (E:=fun _ _ =>[⟨7,w,t,0,level⟩]) (aBo (v:=level) s) (fun _ _ =>ag6 rfl) (fun f b s e' h =>by simp only [adn,h]) fun f b c x e' h =>?_)
   simp only [adn,h]; rfl
  | j6 =>exact .lf (.pt rfl fun f b g =>by simp only [adn,b.l])
  | j7 =>
   exact .of ⟨some (2,ad9 e.l t),0,[t],[(t,{ e.rc t with waiting := -1 })],[⟨8,w,t,child,0⟩]⟩ (.go ⟨stack,id,child,level,waiter,.next⟩) ⟨fun u hu =>by rw [List.mem_singleton.1 hu]; exact ⟨ht,.inl (.inl hin)⟩,fun p hp =>by rw [List.mem_singleton.1 hp]; exact List.mem_singleton.2 rfl,ag6 rfl,fun _ _ q =>.inr (by cases q; decide)⟩ fun f b =>by
    simp only [adn,b.b.l,b.q t (List.mem_singleton.2 rfl)]; rfl
  | f2 =>
   by_cases hh:e.hit (acB e.l t) 0=true
   ·exact .lf (.cs1 (if_pos hh) rfl fun f b g =>by simp only [adn,EnvP.hit,b.l,b.hit g]; exact if_pos hh)
   ·exact .lf (.cs1 (if_neg hh) rfl fun f b g =>by simp only [adn,EnvP.hit,b.l,b.hit g]; exact if_neg hh)
  | f3 =>
   by_cases hh:IsT e (wi (wi (e.gt (acB e.l t))-1))
   ·exact .lf (.ld (if_pos hh) fun f b g =>by
     simp only [adn,EnvP.gt,b.l,g]
     exact if_pos ((alX b).2 hh))
   ·exact .lf (.ld (if_neg hh) fun f b g =>by
     simp only [adn,EnvP.gt,b.l,g]
     exact if_neg (fun k =>hh ((alX b).1 k)))
  | f4 s =>exact .lf (.gf (A:=fun s =>.go ⟨stack,id,child,level,waiter,.f4 s⟩) (B:=fun c v =>.go ⟨stack,id,child,level,waiter,if c=3 then .f6 else .f5 v (.l1 0)⟩) (aAg (t:=waiter) s) (fun f b s e' h =>by simp only [adn,h]) fun f b c x e' h =>by simp only [adn,h])
  | f5 v0 s =>exact .lf (.gf (A:=fun s =>.go ⟨stack,id,child,level,waiter,.f5 v0 s⟩) (B:=fun _ _ =>azO ⟨stack,id,child,level,waiter,.f5 v0 s⟩) (ak7 (v:=v0) s) (fun f b s e' h =>by simp only [adn,h]) fun f b c x e' h =>by simp only [adn,h]; rfl)
  | f6 =>exact .mapP (amf h hr fun b =>if b=true then Rs.go (⟨stack.dropLast++[waiter],id,child,level,waiter,.next⟩:RunS) else azO ⟨stack,id,child,level,waiter,.f6⟩) (fun x =>x) fun f b =>(by
    simp only [adn]
    by_cases hb:acN waiter f=true
    ·rw [if_pos hb,if_pos hb]
    ·rw [if_neg hb,if_neg hb]; rfl)
 ·exact .lf (.a0 (if_pos h0) fun f b =>if_pos (fun k =>h0 ((alX b).1 k)))
theorem aEj (b:Bs e f) {k:WorkS}:abH w f k=abH w e k:=by unfold abH; rw [b.c]
theorem aBm {k:WorkS} (h:MI c e) (hk:asN c k) (hh:auu k):Loc (Ow c e w (vwW k)) (fun e =>abe w e k) e:=by
 have hB:=(auJ (w:=w) h hk).1
 have hB2:=ayl (w:=w) (e:=e) hh
 have hb:∀ f,Bs e f→abH w f k=abH w e k:=fun f b =>aEj b
 revert hB hB2 hb
 generalize abH w e k=kc
 intro h1 ⟨h2,h3⟩ hb
 rw [← h3]
 cases kc with
 | top =>exact .lf (.a0 (s:=k) (by unfold abe; rw [hb e .refl]) fun f b =>by unfold abe; rw [hb f b])
 | t1 t s =>exact .lf (.gf (A:=fun s =>{ k with c:=.t1 t s }) (B:=fun _ _ =>{ k with cursor:=wi (k.cursor+1),c:=.t2 axG }) (ayu (t:=t) s) (fun f b s e' h =>by simp only [abe,hb f b,h]) fun f b c x e' h =>by simp only [abe,hb f b,h])
 | t2 s =>
  cases s with
  | pop s =>exact .lf (.gf (A:=fun s =>{ k with c:=.t2 (.pop s) }) (B:=fun c x =>if c=2 then { k with c:=.t3 aAk } else { k with c:=.t2 (.claim x) }) (aCB s) (fun f b s e' h =>by simp only [abe,hb f b,ai5,h]) fun f b c x e' h =>(by
    simp only [abe,hb f b,ai5,h]
    by_cases hc:c=2
    ·simp only [if_pos hc]; rfl
    ·simp only [if_neg hc]))
  | claim t =>exact .mapP (amf h h1 fun b =>if b=true then ({ k with x:=t,c:=.t7 (aE2 t) }:WorkS) else { k with c:=.t2 (.pop (.l1 0)) }) (fun x =>x) fun f b =>(by
    simp only [abe,hb f b,ai5]
    by_cases hc:acN t f=true
    ·simp only [if_pos hc]; rfl
    ·simp only [if_neg hc])
 | t3 s =>
  have hi:∀ f,Bs e f→an8 f=an8 e:=fun f b =>by unfold an8; rw [b.c]
  have hi2:∀ f c x e',Bs e f→aa3 w f s=(.fin c x,e')→an8 e'=an8 e:=fun f c x e' b h =>by
   obtain ⟨s1,D,_,_,hD⟩:=apW (w:=w) (e:=e) s
   unfold an8
   have:e'.c=f.c:=by
    have hq:=(apW (w:=w) (e:=f) s)
    obtain ⟨s2,D2,h2,_,_⟩:=hq
    have h2:aa3 w f s=(s2,ap D2 f):=h2
    rw [h] at h2
    have:=(Prod.mk.inj h2).2
    rw [this]; rfl
   rw [this,b.c]
  exact .lf (.gf (A:=fun s =>{ k with c:=.t3 s }) (B:=fun c x =>if c=1 then { k with x:=x,c:=.t6 } else if c=0 then { k with c:=.t2 axG } else { k with c:=an8 e }) (apW s) (fun f b s e' h =>by simp only [abe,hb f b,h]) fun f b c x e' h =>by simp only [abe,hb f b,h,hi2 f c x e' b h])
 | t4 s =>exact .lf (.gf (A:=fun s =>{ k with c:=.t4 s }) (B:=fun c x =>if c=2 then { k with c:=.t8 .l1 } else { k with victim:=wi (Int.tdiv x 64),level:=Int.tmod x 64,c:=.t5 .l1 }) (ay5 s) (fun f b s e' h =>by simp only [abe,hb f b,h]) fun f b c x e' h =>by simp only [abe,hb f b,h])
 | t5 s =>
  refine .lf (.gfE (A:=fun s =>{ k with c:=.t5 s }) (B:=fun c x =>if c=1 then { k with x:=x,c:=.t6 } else if c=2 then { k with c:=.t9 .l1 } else { k with c:=.top }) (E:=fun c x =>if c=1 then [⟨14,w,x,k.victim,k.level⟩] else []) (ayy (q:=aat e.l k.victim k.level) s) (fun c x =>?_) (fun f b s e' h =>by simp only [abe,hb f b,b.l,h]) fun f b c x e' h =>?_)
  ·split
   ·exact ag6 rfl
   ·exact aiW
  ·simp only [abe,hb f b,b.l,h]
   by_cases hc:c=1
   ·rw [if_pos hc,if_pos hc,if_pos hc]; rfl
   ·rw [if_neg hc,if_neg hc,if_neg hc]
    by_cases hc2:c=2
    ·rw [if_pos hc2,if_pos hc2]; rfl
    ·rw [if_neg hc2,if_neg hc2]; rfl
 | t6 =>exact .mapP (amf h h1 fun b =>if b=true then ({ k with c:=.t7 (aE2 k.x) }:WorkS) else { k with c:=.top }) (fun x =>x) fun f b =>(by simp only [abe,hb f b])
 | t7 s =>exact .gfP (A:=fun s =>{ k with c:=.t7 s }) (B:=fun _ _ =>{ k with c:=.top }) (aE1 h h1 h2) (fun f b s e' h =>by simp only [abe,hb f b,h]) fun f b c x e' h =>by simp only [abe,hb f b,h]
 | t8 s =>exact .lf (.gf (A:=fun s =>{ k with c:=.t8 s }) (B:=fun _ _ =>{ k with c:=.top }) (ayG s) (fun f b s e' h =>by simp only [abe,hb f b,h]) fun f b c x e' h =>by simp only [abe,hb f b,h])
 | t9 s =>exact .lf (.gf (A:=fun s =>{ k with c:=.t9 s }) (B:=fun _ _ =>{ k with c:=.top }) (atk (x:=aaF e.l k.victim) (y:=k.level) (q:=aat e.l k.victim k.level) s) (fun f b s e' h =>by simp only [abe,hb f b,b.l,h]) fun f b c x e' h =>by simp only [abe,hb f b,b.l,h])
noncomputable def aDb (subs:List Sub) (me:Int) (e:EnvP) (k:ClieS):(Bool×ClieS)×EnvP:=(((aiB subs me e k).1,(aiB subs me e k).2.1),(aiB subs me e k).2.2)
noncomputable def afO (subs:List Sub) (me:Int) (e:EnvP) (k:ClieS) (s:Sub):(Bool×ClieS)×EnvP:=(((aa8 subs me e k s).1,(aa8 subs me e k s).2.1),(aa8 subs me e k s).2.2)
theorem aDa {k:ClieS} {me:Int} (hcc:e.c=c):Loc (Ow c e me (vwC k)) (fun e =>aDb c.subs me e k) e:=by
 by_cases hi:(c.subs.length:Int)≤k.i
 ·exact .lf (.a0 (s:=(true,k)) (by unfold aDb aiB; rw [if_pos hi]) fun f b =>by unfold aDb aiB; rw [if_pos hi])
 refine .mapP (S:=fun e =>afO c.subs me e k (abZ c.subs k.i)) ?_ (fun x =>x) fun f b =>by unfold aDb afO aiB; rw [if_neg hi]
 obtain ⟨i,id,acc,g⟩:=k
 generalize abZ c.subs _=s
 cases g with
 | n1 =>exact .lf (.cs rfl fun f b g =>by simp only [afO,aa8,aqq,EnvP.hit,b.hit g])
 | a1 =>exact .lf (.cs rfl fun f b g =>by simp only [afO,aa8,aqq,EnvP.hit,b.hit g])
 | n2 =>
  by_cases h1:e.c.heap≤wi (e.gt 2)
  ·exact .lf (.ld1 (s:=(false,⟨i,id,acc,.n8⟩)) (k':=2) (w':=me) (t':=0) (o':=i) (l':=1) (by simp only [afO,aa8]; rw [if_pos h1]) rfl fun f b g =>by simp only [afO,aa8,EnvP.gt,b.c,g]; rw [if_pos h1])
  ·exact .lf (.ld (s:=(false,⟨i,id,acc,.n3⟩)) (by simp only [afO,aa8]; rw [if_neg h1]) fun f b g =>by simp only [afO,aa8,EnvP.gt,b.c,g]; rw [if_neg h1])
 | n3 =>
  by_cases h1:IsT e (wi (e.gt 0))
  ·refine .of ⟨some (6,0),wu (e.m.gt 0+1),[wi (e.gt 0)],[(wi (e.gt 0),awU s.prog (-1))],[]⟩ (false,⟨i,wi (e.gt 0),acc,.n4⟩) ⟨fun u hu =>?_,fun p hp =>?_,aiW,fun _ _ q =>.inr (by cases q; decide)⟩ fun f b =>?_
   ·rw [List.mem_singleton.1 hu]
    refine ⟨?_,.inr (.inr ⟨rfl,rfl⟩)⟩
    unfold IsT at h1; rw [hcc] at h1; exact h1
   ·rw [List.mem_singleton.1 hp]; exact List.mem_singleton.2 rfl
   ·have g:f.gt 0=e.gt 0:=b.g _ _ rfl
    simp only [afO,aa8,g]
    rw [if_pos ((alX b.b).2 h1)]
    unfold abN
    rw [g]; rfl
  ·exact .lf (.pt1 (s:=(false,⟨i,id,acc,.n8⟩)) (k:=6) (a:=0) (v:=wu (e.gt 0+1)) (k':=2) (w':=me) (t':=0) (o':=i) (l':=2) (by simp only [afO,aa8]; rw [if_neg h1]; rfl) rfl fun f b g =>by
    have g:f.gt 0=e.gt 0:=g
    simp only [afO,aa8,g]
    rw [if_neg (fun k =>h1 ((alX b).1 k))]
    unfold abN
    rw [g])
 | n4 =>exact .lf (.pt rfl fun f b g =>by simp only [afO,aa8,b.l])
 | n5 =>exact .lf (.pt rfl fun f b g =>by simp only [afO,aa8,b.l,b.k])
 | n6 =>
  refine .lf (.gfE (A:=fun t =>(false,⟨i,id,acc,.a6 t⟩)) (B:=fun c _ =>if c=0 then (false,⟨i,id,true,.n7⟩) else (false,⟨i,id,acc,.n8⟩)) (E:=fun c _ =>if c=0 then [⟨1,me,id,i,s.level⟩] else []) (aqT (d:=s.deadline) (t:=id) .l1) (fun c x =>?_) (fun f b s e' h =>by simp only [afO,aa8,h]) fun f b c x e' h =>?_)
  ·split
   ·exact ag6 rfl
   ·exact aiW
  ·simp only [afO,aa8,h]
   split<;>rfl
 | a6 t0 =>
  refine .lf (.gfE (A:=fun t =>(false,⟨i,id,acc,.a6 t⟩)) (B:=fun c _ =>if c=0 then (false,⟨i,id,true,.n7⟩) else (false,⟨i,id,acc,.n8⟩)) (E:=fun c _ =>if c=0 then [⟨1,me,id,i,s.level⟩] else []) (aqT (d:=s.deadline) (t:=id) t0) (fun c x =>?_) (fun f b s e' h =>by simp only [afO,aa8,h]) fun f b c x e' h =>?_)
  ·split
   ·exact ag6 rfl
   ·exact aiW
  ·simp only [afO,aa8,h]
   split<;>rfl
 | n7 =>exact .lf (.pt rfl fun f b g =>by simp only [afO,aa8,b.l])
 | n8 =>
  by_cases h1:acc=true
  ·exact .lf (.pt (s:=(false,⟨i,id,acc,.n9⟩)) (k:=2) (a:=1) (v:=0) (by simp only [afO,aa8]; rw [if_pos h1]; rfl) fun f b g =>by simp only [afO,aa8]; rw [if_pos h1]; rfl)
  ·exact .lf (.pt (s:=(decide ((c.subs.length:Int)≤wi (i+1)),⟨wi (i+1),id,false,.n1⟩)) (k:=2) (a:=1) (v:=0) (by simp only [afO,aa8]; rw [if_neg h1]; rfl) fun f b g =>by simp only [afO,aa8]; rw [if_neg h1]; rfl)
 | n9 =>exact .lf (.gf (A:=fun t =>(false,⟨i,id,acc,.a9 t⟩)) (B:=fun _ _ =>(decide ((c.subs.length:Int)≤wi (i+1)),⟨wi (i+1),id,false,.n1⟩)) (ak7 (v:=s.level) (.l1 0)) (fun f b s e' h =>by simp only [afO,aa8,h]) fun f b c x e' h =>by simp only [afO,aa8,h]; rfl)
 | a9 t0 =>exact .lf (.gf (A:=fun t =>(false,⟨i,id,acc,.a9 t⟩)) (B:=fun _ _ =>(decide ((c.subs.length:Int)≤wi (i+1)),⟨wi (i+1),id,false,.n1⟩)) (ak7 (v:=s.level) t0) (fun f b s e' h =>by simp only [afO,aa8,h]) fun f b c x e' h =>by simp only [afO,aa8,h]; rfl)
end
def InD (n:Nat) (D1 D2:Dl):Prop:=∀ k1 k2 a,D1.ad=some (k1,a)→D2.ad=some (k2,a)→0≤a∧a<(n:Int)→k1=1∧k2=1
structure Cor (e f:EnvP):Prop where
 c:f.c=e.c
 l:f.l=e.l
 k:f.k=e.k
 m:f.m.cells=e.m.cells
 r:f.recs=e.recs
 n:f.m.count=e.m.count
def aKt (D:Dl) (n:Nat) (x:Int):Int:=match D.ad with
 | none =>x
 | some (_,a) =>if 0≤a∧a<(n:Int) then wi (x+1) else x
section
variable {c:Cfg} {e f g:EnvP} {D D1 D2:Dl} {t:Int}
theorem Cor.refl:Cor e e:=⟨rfl,rfl,rfl,rfl,rfl,rfl⟩
theorem Cor.symm (h:Cor e f):Cor f e:=⟨h.c.symm,h.l.symm,h.k.symm,h.m.symm,h.r.symm,h.n.symm⟩
theorem Cor.trans (h:Cor e f) (h2:Cor f g):Cor e g:=⟨h2.c.trans h.c,h2.l.trans h.l,h2.k.trans h.k,h2.m.trans h.m,h2.r.trans h.r,h2.n.trans h.n⟩
theorem Cor.gt (h:Cor e f) {a:Int}:f.m.gt a=e.m.gt a:=by unfold MemV.gt; rw [h.m]
theorem Cor.ag (h:Cor e f):Ag D e f:=⟨⟨h.c,h.l,h.k,by rw [h.m],by rw [h.r]⟩,fun _ _ _ =>h.gt,fun _ _ =>by unfold EnvP.rc; rw [h.r]⟩
def aAD (D:Dl) (xs:List Int):List Int:=match D.ad with
 | none =>xs
 | some (_,a) =>if 0≤a∧a<(xs.length:Int) then xs.set a.toNat D.v else xs
theorem ahU {m:MemV}:(D.mem m).cells=aAD D m.cells:=by
 unfold Dl.mem aAD
 cases D.ad with
 | none =>rfl
 | some p =>
  obtain ⟨k,a⟩:=p
  show (m.pt k a D.v).cells=if 0≤a∧a<(m.cells.length:Int) then m.cells.set a.toNat D.v else m.cells
  unfold MemV.pt
  by_cases h:0≤a∧a<(m.cells.length:Int)
  ·rw [if_pos h,if_pos h]
  ·rw [if_neg h,if_neg h]
theorem ahT {m:MemV}:(D.mem m).count=aKt D m.cells.length m.count:=by
 unfold Dl.mem aKt
 cases D.ad with
 | none =>rfl
 | some p =>
  obtain ⟨k,a⟩:=p
  show (m.pt k a D.v).count=if 0≤a∧a<(m.cells.length:Int) then wi (m.count+1) else m.count
  unfold MemV.pt
  by_cases h:0≤a∧a<(m.cells.length:Int)
  ·rw [if_pos h,if_pos h]
  ·rw [if_neg h,if_neg h]
theorem Cor.ap (h:Cor e f):Cor (ap D e) (ap D f):=by
 refine ⟨h.c,h.l,h.k,?_,congrArg (fun r =>ark r D.rs) h.r,?_⟩
 ·show (D.mem f.m).cells=(D.mem e.m).cells
  rw [ahU,ahU,h.m]
 ·show (D.mem f.m).count=(D.mem e.m).count
  rw [ahT,ahT,h.m,h.n]
theorem amX {m:MemV}:(D.mem m).cells.length=m.cells.length:=by
 unfold Dl.mem
 cases D.ad with
 | none =>rfl
 | some p =>
  obtain ⟨k,a⟩:=p
  show (m.pt k a D.v).cells.length=_
  unfold MemV.pt
  split
  ·show (m.cells.set _ _).length=_; rw [List.length_set]
  ·rfl
theorem arj:∀ {rs:List (Int×RecP)} {l:List RecP},(ark l rs).length=l.length
 | [],_ =>rfl
 | p::rs,l =>by
  show (ark (l.set p.1.toNat p.2) rs).length=_
  rw [arj,List.length_set]
theorem ayJ:∀ {rs:List (Int×RecP)} {l:List RecP} {i:Nat},(∀ p∈rs,p.1.toNat≠i)→(ark l rs)[i]?=l[i]?
 | [],_,_,_ =>rfl
 | p::rs,l,i,h =>by
  show (ark (l.set p.1.toNat p.2) rs)[i]?=_
  rw [ayJ fun q hq =>h q (List.mem_cons_of_mem _ hq),List.getElem?_set_ne (h p (List.mem_cons_self ..))]
theorem awh:∀ {rs:List (Int×RecP)} {l:List RecP} {i:Nat} {x:RecP},(∀ p∈rs,p.1.toNat≠i)→ark (l.set i x) rs=(ark l rs).set i x
 | [],_,_,_,_ =>rfl
 | p::rs,l,i,x,h =>by
  show ark ((l.set i x).set p.1.toNat p.2) rs=(ark (l.set p.1.toNat p.2) rs).set i x
  rw [List.set_comm _ _ (fun k =>h p (List.mem_cons_self ..) k.symm),awh fun q hq =>h q (List.mem_cons_of_mem _ hq)]
theorem atc:∀ {r1 r2:List (Int×RecP)} {l:List RecP},(∀ p∈r1,∀ q∈r2,p.1.toNat≠q.1.toNat)→ark (ark l r1) r2=ark (ark l r2) r1
 | [],_,_,_ =>rfl
 | p::r1,r2,l,h =>by
  show ark (ark (l.set p.1.toNat p.2) r1) r2=ark ((ark l r2).set p.1.toNat p.2) r1
  rw [atc fun a ha b hb =>h a (List.mem_cons_of_mem _ ha) b hb,awh fun q hq k =>h p (List.mem_cons_self ..) q hq k.symm]
theorem aI8 {b:Int}:(ap D e).m.gt b=match D.ad with
  | none =>e.m.gt b
  | some (_,a) =>if b=a∧0≤a∧a<(e.m.cells.length:Int) then D.v else e.m.gt b:=by
 show (D.mem e.m).gt b=_
 unfold Dl.mem
 cases D.ad with
 | none =>rfl
 | some p =>
  obtain ⟨k,a⟩:=p
  exact aho (e:=e)
theorem aI7 (h0:0≤t) (h:∀ p∈D.rs,p.1≠t∧0≤p.1):(ap D e).rc t=e.rc t:=by
 show ((ark e.recs D.rs)[t.toNat]?).getD _=(e.recs[t.toNat]?).getD _
 rw [ayJ fun p hp =>by have:=h p hp; omega]
theorem aKx:Bs e (ap D e):=⟨rfl,rfl,rfl,amX,arj⟩
theorem azU (k1:aDB e D1) (hi:InD e.m.cells.length D1 D2) {k2 a:Int} (h2:D2.ad=some (k2,a)):(ap D1 e).m.gt a=e.m.gt a:=by
 rw [aI8]
 generalize h1:D1.ad=o
 cases o with
 | none =>rfl
 | some p =>
  obtain ⟨k,b⟩:=p
  show (if a=b∧0≤b∧b<(e.m.cells.length:Int) then D1.v else e.m.gt a)=_
  by_cases q:a=b∧0≤b∧b<(e.m.cells.length:Int)
  ·rw [if_pos q]
   obtain ⟨q1,q2⟩:=q
   subst q1
   have:=(hi k k2 a h1 h2 q2).1
   rcases k1 k a h1 with ⟨_,h⟩ | h
   ·exact h
   ·omega
  ·rw [if_neg q]
theorem InD.symm {n:Nat} (h:InD n D1 D2):InD n D2 D1:=fun k1 k2 a h1 h2 hr =>(h k2 k1 a h2 h1 hr).symm
theorem aGs (k1:aDB e D1) (k2:aDB (ap D1 e) D2) (hi:InD e.m.cells.length D1 D2)
  (r1:∀ p∈D1.rs,p.1∈D1.rd) (r2:∀ p∈D2.rs,p.1∈D2.rd) (p1:∀ t∈D1.rd,0≤t) (p2:∀ t∈D2.rd,0≤t) (dj:∀ t∈D1.rd,t ∉ D2.rd) :
  Ag D2 (ap D1 e) e∧Ag D1 e (ap D2 e)∧aDB e D2∧Cor (ap D2 (ap D1 e)) (ap D1 (ap D2 e)):=by
 have a2:aDB e D2:=fun k a h =>(k2 k a h).imp (fun q =>⟨q.1,by rw [q.2]; exact azU k1 hi h⟩) id
 have ag2:Ag D2 (ap D1 e) e:=⟨⟨rfl,rfl,rfl,amX.symm,arj.symm⟩,fun k a h =>(azU k1 hi h).symm,fun t ht =>(aI7 (p2 t ht) fun p hp =>⟨fun k =>dj p.1 (r1 p hp) (k▸ht),p1 _ (r1 p hp)⟩).symm⟩
 have ag1:Ag D1 e (ap D2 e):=⟨aKx,fun k a h =>azU a2 hi.symm h,fun t ht =>aI7 (p1 t ht) fun p hp =>⟨fun k =>dj t ht (k▸r2 p hp),p2 _ (r2 p hp)⟩⟩
 refine ⟨ag2,ag1,a2,rfl,rfl,rfl,?_,?_,?_⟩
 ·show (D1.mem (D2.mem e.m)).cells=(D2.mem (D1.mem e.m)).cells
  rw [ahU,ahU,ahU,ahU]
  unfold aAD
  generalize hd1:D1.ad=o1
  generalize hd2:D2.ad=o2
  cases o1 with
  | none =>cases o2<;>rfl
  | some x1 =>
   obtain ⟨kk1,a1⟩:=x1
   cases o2 with
   | none =>rfl
   | some x2 =>
    obtain ⟨kk2,a2'⟩:=x2
    simp only
    by_cases q1:0≤a1∧a1<(e.m.cells.length:Int)
    ·by_cases q2:0≤a2'∧a2'<(e.m.cells.length:Int)
     ·simp only [if_pos q1,if_pos q2,List.length_set]
      by_cases q3:a1=a2'
      ·subst q3
       have hk:=hi kk1 kk2 a1 hd1 hd2 q1
       have v1:D1.v=e.m.gt a1:=by rcases k1 _ _ hd1 with h | h; exact h.2; omega
       have v2:D2.v=e.m.gt a1:=by rcases a2 _ _ hd2 with h | h; exact h.2; omega
       rw [v1,v2]
      ·rw [List.set_comm _ _ (fun k =>q3 (by omega))]
     ·simp only [if_pos q1,if_neg q2,List.length_set]
    ·by_cases q2:0≤a2'∧a2'<(e.m.cells.length:Int)
     ·simp only [if_neg q1,if_pos q2,List.length_set]
     ·simp only [if_neg q1,if_neg q2]
 ·exact Eq.symm (atc fun p hp q hq k =>dj p.1 (r1 p hp) (by
   have h:=r2 q hq
   have h3:=p1 _ (r1 p hp)
   have h4:=p2 _ h
   have h5:p.1=q.1:=by omega
   rw [h5]; exact h))
 ·show (D1.mem (D2.mem e.m)).count=(D2.mem (D1.mem e.m)).count
  rw [ahT,ahT,ahT,ahT,amX,amX]
  unfold aKt
  cases D1.ad with
  | none =>cases D2.ad<;>rfl
  | some x1 =>
   cases D2.ad with
   | none =>rfl
   | some x2 =>
    simp only
    split<;>split<;>rfl
theorem aFQ {vs:Nat→Vw} {m:Nat} (h:LI c e vs) (h1:Hd (vs m) t):Stt c e t≠1∧t<e.gt 0:=by
 obtain ⟨rl,ts,la⟩:=h
 obtain ⟨k0,k1⟩:=aF1 la (m:=m) h1
 obtain ⟨_,c2,c3⟩:=la.cl t k0
 have c3:aJf (ts t) (Stt c e t) (rcw e t) (Jo c e t) (rcs e t) (acM kKn e.evs t) (acM kFn e.evs t):=c3
 have c2:ts t=.fresh↔e.gt 0≤t:=c2
 have k1:ts t=.run m∨ts t=.bm m∨ts t=.fin m:=k1
 constructor
 ·rcases k1 with k | k | k<;>rw [k] at c3<;>(have:=c3.1; omega)
 ·rcases Int.lt_or_le t (e.gt 0) with q | q
  ·exact q
  ·have:=c2.2 q
   rcases k1 with k | k | k<;>rw [this] at k<;>cases k
theorem aDY {vs:Nat→Vw} (h:LI c e vs) (ht:TOk c t) (h1:Stt c e t=1):t<e.gt 0:=by
 obtain ⟨rl,ts,la⟩:=h
 obtain ⟨_,c2,c3⟩:=la.cl t ht
 have c3:aJf (ts t) (Stt c e t) (rcw e t) (Jo c e t) (rcs e t) (acM kKn e.evs t) (acM kFn e.evs t):=c3
 have c2:ts t=.fresh↔e.gt 0≤t:=c2
 rcases Int.lt_or_le t (e.gt 0) with q | q
 ·exact q
 ·rw [c2.2 q] at c3
  have:=c3.1
  omega
theorem aHK {vs:Nat→Vw} {m1 m2:Nat} (hm:MI c e) (hl:(e.m.cells.length:Int)=aaU c) (hli:LI c e vs) (hN:0≤e.gt 0∧e.gt 0≤1000000) (hne:m1≠m2) (o1:Own c e (vs m1) D1 t) (o2:Own c (ap D1 e) (vs m2) D2 t) (hi:InD e.m.cells.length D1 D2):False:=by
 obtain ⟨ht,o1⟩:=o1
 obtain ⟨_,o2⟩:=o2
 have w0:wi (e.gt 0)=e.gt 0:=aaM (aas (by omega))
 have rs:0≤aaN (aav c) t∧aaN (aav c) t<(e.m.cells.length:Int):=by rw [hl]; exact aEq hm.d (f:=0) (by omega) ht
 have r0:(0:Int)≤0∧(0:Int)<(e.m.cells.length:Int):=by omega
 have un:∀ {k a:Int},D2.ad=some (k,a)→k≠1→0≤a∧a<(e.m.cells.length:Int)→(ap D1 e).m.gt a=e.m.gt a:=fun {k a} h2 hk hr =>by
  rw [aI8]
  generalize h1:D1.ad=o
  cases o with
  | none =>rfl
  | some p =>
   obtain ⟨k1,b⟩:=p
   refine if_neg fun q =>hk ?_
   obtain ⟨q1,_⟩:=q
   subst q1
   exact (hi k1 k a h1 h2 hr).2
 have c2:Stt c (ap D1 e) t=1∧D2.ad=some (3,aaN (aav c) t)→Stt c e t=1:=fun q =>(un q.2 (by decide) rs).symm.trans q.1
 have n2:D2.ad=some (6,0)∧t=wi ((ap D1 e).gt 0)→t=e.gt 0:=fun q =>by
  have:=un q.1 (by decide) r0
  rw [q.2,show (ap D1 e).gt 0=e.gt 0 from this,w0]
 rcases o1 with o1 | o1 | o1
 ·have f1:=aFQ hli o1
  rcases o2 with o2 | o2 | o2
  ·exact hne (aIq hli o1 o2)
  ·exact f1.1 (c2 o2)
  ·have:=n2 o2; omega
 ·have f1:=aDY hli ht o1.1
  rcases o2 with o2 | o2 | o2
  ·exact (aFQ hli o2).1 o1.1
  ·have:=(hi 3 3 _ o1.2 o2.2 rs).1; omega
  ·have:=n2 o2; omega
 ·have f1:t=e.gt 0:=o1.2.trans w0
  rcases o2 with o2 | o2 | o2
  ·have:=(aFQ hli o2).2; omega
  ·have:=aDY hli ht (c2 o2); omega
  ·have:=(hi 6 6 0 o1.1 o2.1 r0).1; omega
end
end
section
structure Sys {σ A:Type} (st:Nat→σ→σ) (ac:Nat→σ→A) (R:σ→σ→Prop) (I:Nat→σ→Prop) (ind:A→A→Prop) (K W:Nat):Prop where
 r0:∀ s,R s s
 r2:∀ {s t u},R s t→R t u→R s u
 rs:∀ {N s t m},I N s→R s t→N≤K→m≤W→R (st m s) (st m t)∧ac m s=ac m t
 i:∀ {N s m},I N s→N≤K→m≤W→I (N+1) (st m s)
 d:∀ {N s m1 m2},I N s→N+1≤K→m1≤W→m2≤W→m1≠m2→ind (ac m1 s) (ac m2 (st m1 s))→R (st m2 (st m1 s)) (st m1 (st m2 s))∧ac m2 s=ac m2 (st m1 s)∧ac m1 (st m2 s)=ac m1 s
section
variable {σ A:Type} {st:Nat→σ→σ} {ac:Nat→σ→A} {R:σ→σ→Prop} {I:Nat→σ→Prop} {ind:A→A→Prop} {K W:Nat}
def anv (st:Nat→σ→σ):List Nat→σ→σ
 | [],s =>s
 | m::ms,s =>anv st ms (st m s)
def anC (st:Nat→σ→σ) (ac:Nat→σ→A):List Nat→σ→List (Nat×A)
 | [],_ =>[]
 | m::ms,s =>(m,ac m s)::anC st ac ms (st m s)
theorem awk:∀ {a b:List Nat} {s:σ},anv st (a++b) s=anv st b (anv st a s)
 | [],_,_ =>rfl
 | _::a,b,s =>awk (a:=a)
theorem arY:∀ {a b:List Nat} {s:σ},anC st ac (a++b) s=anC st ac a s++anC st ac b (anv st a s)
 | [],_,_ =>rfl
 | x::a,b,s =>congrArg ((x,ac x s)::·) (arY (a:=a))
theorem aio:∀ {a:List Nat} {s:σ},(anC st ac a s).length=a.length
 | [],_ =>rfl
 | _::a,s =>congrArg (·+1) (aio (a:=a))
theorem aD1 (h:Sys st ac R I ind K W):∀ {ms:List Nat} {N:Nat} {s:σ},I N s→N+ms.length≤K→(∀ m∈ms,m≤W)→I (N+ms.length) (anv st ms s)
 | [],N,s,hi,_,_ =>hi
 | m::ms,N,s,hi,hk,hm =>by
  have hk:N+(ms.length+1)≤K:=hk
  have:=aD1 h (ms:=ms) (h.i hi (by omega) (hm m (List.mem_cons_self ..))) (by omega) fun x hx =>hm x (List.mem_cons_of_mem _ hx)
  rw [show N+1+ms.length=N+(m::ms).length by show _=N+(ms.length+1); omega] at this
  exact this
theorem aD0 (h:Sys st ac R I ind K W):∀ {ms:List Nat} {N:Nat} {s t:σ},I N s→R s t→N+ms.length≤K→(∀ m∈ms,m≤W)→anC st ac ms s=anC st ac ms t∧R (anv st ms s) (anv st ms t)
 | [],_,_,_,_,hr,_,_ =>⟨rfl,hr⟩
 | m::ms,N,s,t,hi,hr,hk,hm =>by
  have hk:N+(ms.length+1)≤K:=hk
  have hmW:=hm m (List.mem_cons_self ..)
  obtain ⟨h1,h2⟩:=h.rs hi hr (by omega) hmW
  obtain ⟨h3,h4⟩:=aD0 h (ms:=ms) (h.i hi (by omega) hmW) h1 (by omega) fun x hx =>hm x (List.mem_cons_of_mem _ hx)
  exact ⟨by show (m,ac m s)::_=(m,ac m t)::_; rw [h2,h3],h4⟩
theorem aKE (h:Sys st ac R I ind K W) {x:Nat} {post:List Nat} (hx:x≤W) (hpo:∀ m∈post,m≤W):∀ {pre:List Nat} {N:Nat} {s:σ},I N s→N+(pre.length+1+post.length)≤K→(∀ m∈pre,m≤W)→(∀ y∈anC st ac pre s,y.1≠x∧ind y.2 (ac x (anv st pre s))) →
  anC st ac (x::(pre++post)) s=(x,ac x (anv st pre s))::(anC st ac pre s++anC st ac post (st x (anv st pre s)))∧R (anv st (pre++x::post) s) (anv st (x::(pre++post)) s)
 | [],_,s,_,_,_,_ =>⟨rfl,h.r0 _⟩
 | y::pre,N,s,hi,hk,hpr,hy =>by
  have hk:N+(pre.length+1+1+post.length)≤K:=hk
  have hyW:=hpr y (List.mem_cons_self ..)
  have i1:=h.i hi (by omega) hyW
  obtain ⟨h1,h2⟩:=aKE h hx hpo (pre:=pre) i1 (by omega) (fun m hm =>hpr m (List.mem_cons_of_mem _ hm)) fun z hz =>hy z (List.mem_cons_of_mem _ hz)
  have h1:(x,ac x (st y s))::anC st ac (pre++post) (st x (st y s))=_:=h1
  obtain ⟨e1,e2⟩:=List.cons.inj h1
  have e1:ac x (st y s)=ac x (anv st pre (st y s)):=(Prod.mk.inj e1).2
  obtain ⟨n1,n2⟩:=hy _ (List.mem_cons_self ..)
  have n2:ind (ac y s) (ac x (anv st pre (st y s))):=n2
  rw [← e1] at n2
  obtain ⟨d1,d2,d3⟩:=h.d hi (by omega) hyW hx n1 n2
  obtain ⟨l1,l2⟩:=aD0 h (ms:=pre++post) (h.i i1 (by omega) hx) d1 (by rw [List.length_append]; omega) fun m hm =>(List.mem_append.1 hm).elim (fun k =>hpr m (List.mem_cons_of_mem _ k)) (hpo m)
  refine ⟨?_,h.r2 h2 l2⟩
  show (x,ac x s)::(y,ac y (st x s))::anC st ac (pre++post) (st y (st x s))=(x,ac x (anv st pre (st y s)))::(y,ac y s)::(anC st ac pre (st y s)++anC st ac post (st x (anv st pre (st y s))))
  rw [d2,d3,← l1,e2,e1]
def Av (n:Nat) (dp:Nat→Nat→Prop) (D:List Nat) (x:Nat):Prop:=x<n∧x ∉ D∧∀ i,i<x→dp i x→i∈D
def aJj (n:Nat) (mc:Nat→Nat) (dp:Nat→Nat→Prop) (D:List Nat) (x:Nat):Prop:=Av n dp D x∧∀ j,Av n dp D j→mc x<mc j∨(mc x=mc j∧x≤j)
def Chs (n:Nat) (mc:Nat→Nat) (dp:Nat→Nat→Prop) (ch:List Nat):Prop:=∀ pre x post,ch=pre++x::post→aJj n mc dp pre x
def dpL (ind:A→A→Prop) (L:Nat→Nat×A) (i j:Nat):Prop:=(L i).1=(L j).1∨¬ ind (L i).2 (L j).2
theorem aui (h:Sys st ac R I ind K W) {n:Nat} {L:Nat→Nat×A} {ch:List Nat} (hc:Chs n (fun i =>(L i).1) (dpL ind L) ch) (hW:∀ i,i<n→(L i).1≤W) :
  ∀ {post pre rem:List Nat} {N:Nat} {s:σ},ch=pre++post→(∀ i,i∈rem↔i<n∧i ∉ pre)→rem.Pairwise (·<·)→rem.length=post.length→I N s→N+rem.length≤K→anC st ac (rem.map fun i =>(L i).1) s=rem.map L →
   anC st ac (post.map fun i =>(L i).1) s=post.map L∧R (anv st (rem.map fun i =>(L i).1) s) (anv st (post.map fun i =>(L i).1) s)∧rem.Perm post
 | [],pre,rem,N,s,_,_,_,hl,_,_,_ =>by
  have:rem=[]:=List.eq_nil_of_length_eq_zero hl
  subst this
  exact ⟨rfl,h.r0 _,.nil⟩
 | x::post,pre,rem,N,s,he,hm,hp,hl,hi,hk,hlab =>by
  obtain ⟨⟨b1,b2,b3⟩,_⟩:=hc pre x post he
  obtain ⟨r1,r2,rfl⟩:=List.append_of_mem ((hm x).2 ⟨b1,b2⟩)
  obtain ⟨p1,p2,p3⟩:=List.pairwise_append.1 hp
  obtain ⟨p4,p5⟩:=List.pairwise_cons.1 p2
  have m1:∀ i∈r1,i<n∧i ∉ pre:=fun i k =>(hm i).1 (List.mem_append.2 (.inl k))
  have m2:∀ i∈r2,i<n∧i ∉ pre:=fun i k =>(hm i).1 (List.mem_append.2 (.inr (List.mem_cons_of_mem _ k)))
  have lt1:∀ i∈r1,i<x:=fun i k =>p3 i k x (List.mem_cons_self ..)
  have nd:∀ i∈r1,(L i).1≠(L x).1∧ind (L i).2 (L x).2:=fun i k =>by
   have:¬ dpL ind L i x:=fun q =>(m1 i k).2 (b3 i (lt1 i k) q)
   unfold dpL at this
   exact ⟨fun q =>this (.inl q),Classical.byContradiction fun q =>this (.inr q)⟩
  rw [List.map_append,List.map_append,arY] at hlab
  have hl2:r1.length+(r2.length+1)=post.length+1:=by rw [List.length_append] at hl; exact hl
  obtain ⟨a1,a2⟩:=List.append_inj hlab (by rw [aio,List.length_map,List.length_map])
  have a2:((L x).1,ac (L x).1 (anv st (r1.map fun i =>(L i).1) s))::anC st ac (r2.map fun i =>(L i).1) (st (L x).1 (anv st (r1.map fun i =>(L i).1) s))=L x::r2.map L:=a2
  obtain ⟨a3,a4⟩:=List.cons.inj a2
  have a5:ac (L x).1 (anv st (r1.map fun i =>(L i).1) s)=(L x).2:=congrArg Prod.snd a3
  have hw1:∀ m∈r1.map (fun i =>(L i).1),m≤W:=fun m k =>by
   obtain ⟨i,k1,rfl⟩:=List.mem_map.1 k; exact hW i (m1 i k1).1
  have hw2:∀ m∈r2.map (fun i =>(L i).1),m≤W:=fun m k =>by
   obtain ⟨i,k1,rfl⟩:=List.mem_map.1 k; exact hW i (m2 i k1).1
  have hk2:N+(r1.length+(r2.length+1))≤K:=by rw [List.length_append] at hk; exact hk
  obtain ⟨c1,c2⟩:=aKE h (x:=(L x).1) (hW x b1) hw2 (pre:=r1.map fun i =>(L i).1) hi (by rw [List.length_map,List.length_map]; omega) hw1 fun y hy =>by
   rw [a1] at hy
   obtain ⟨i,k1,rfl⟩:=List.mem_map.1 hy
   rw [a5]; exact nd i k1
  rw [a1,a4,a5] at c1
  have c1:((L x).1,ac (L x).1 s)::anC st ac (r1.map (fun i =>(L i).1)++r2.map fun i =>(L i).1) (st (L x).1 s)=_:=c1
  obtain ⟨c3,c4⟩:=List.cons.inj c1
  rw [← List.map_append,← List.map_append] at c4
  obtain ⟨g1,g2,g3⟩:=aui h hc hW (post:=post) (pre:=pre++[x]) (rem:=r1++r2) (N:=N+1) (s:=st (L x).1 s) (by rw [he,List.append_assoc]; rfl) (fun i =>by
    rw [List.mem_append,List.mem_append,List.mem_singleton]
    constructor
    ·rintro (k | k)
     ·exact ⟨(m1 i k).1,fun q =>q.elim (m1 i k).2 fun q =>by have:=lt1 i k; omega⟩
     ·exact ⟨(m2 i k).1,fun q =>q.elim (m2 i k).2 fun q =>by have:=p4 i k; omega⟩
    ·rintro ⟨k1,k2⟩
     rcases List.mem_append.1 ((hm i).2 ⟨k1,fun q =>k2 (.inl q)⟩) with k | k
     ·exact .inl k
     ·rcases List.mem_cons.1 k with k | k
      ·exact absurd (.inr k) k2
      ·exact .inr k) (List.pairwise_append.2 ⟨p1,p5,fun a ha b hb =>p3 a ha b (List.mem_cons_of_mem _ hb)⟩) (by rw [List.length_append]; omega) (h.i hi (by omega) (hW x b1)) (by rw [List.length_append]; omega) c4
  refine ⟨?_,?_,List.perm_middle.trans (g3.cons x)⟩
  ·show ((L x).1,ac (L x).1 s)::anC st ac (post.map fun i =>(L i).1) (st (L x).1 s)=L x::post.map L
   rw [g1]
   exact congrArg (·::_) c3
  ·refine h.r2 ?_ g2
   rw [List.map_append,List.map_cons,List.map_append]
   exact c2
theorem aB0 (n:Nat):(List.range n).Pairwise (·<·):=List.pairwise_lt_range
theorem aAH (h:Sys st ac R I ind K W) {n N:Nat} {L:Nat→Nat×A} {ch:List Nat} {s:σ} (hc:Chs n (fun i =>(L i).1) (dpL ind L) ch) (hW:∀ i,i<n→(L i).1≤W) (hn:ch.length=n) (hi:I N s) (hk:N+n≤K) (hl:anC st ac ((List.range n).map fun i =>(L i).1) s=(List.range n).map L) :
  anC st ac (ch.map fun i =>(L i).1) s=ch.map L∧R (anv st ((List.range n).map fun i =>(L i).1) s) (anv st (ch.map fun i =>(L i).1) s)∧(List.range n).Perm ch :=
 aui h hc hW (post:=ch) (pre:=[]) (rem:=List.range n) rfl (fun i =>by rw [List.mem_range]; exact ⟨fun k =>⟨k,fun q =>by cases q⟩,fun k =>k.1⟩) (aB0 n) (by rw [List.length_range,hn]) hi (by rw [List.length_range]; exact hk) hl
theorem ap6 {n:Nat} {L:Nat→Nat×A} {ch ch2:List Nat} (hc:Chs n (fun i =>(L i).1) (dpL ind L) ch) (hp:(List.range n).Perm ch) (hc2:Chs n (fun i =>(L (ch.getD i 0)).1) (dpL ind fun i =>L (ch.getD i 0)) ch2) :
  ∀ k,k≤ch2.length→ch2.take k=List.range k
 | 0,_ =>rfl
 | k+1,hk =>by
  have ih:=ap6 hc hp hc2 k (by omega)
  have hn:ch.length=n:=by rw [← hp.length_eq,List.length_range]
  have hkl:k<ch2.length:=by omega
  rw [List.take_succ_eq_append_getElem hkl,ih,List.range_succ]
  refine congrArg (fun q =>List.range k++[q]) ?_
  have e:ch2=List.range k++ch2[k]::ch2.drop (k+1):=by
   rw [← ih,← List.drop_eq_getElem_cons hkl,List.take_append_drop]
  generalize hx:ch2[k]=x at e
  obtain ⟨⟨b1,b2,b3⟩,b4⟩:=hc2 _ _ _ e
  have gx:∀ i,i<n→ch.getD i 0<n∧∃ hi:i<ch.length,ch.getD i 0=ch[i]:=fun i hi =>by
   have h1:i<ch.length:=by omega
   have h2:ch.getD i 0=ch[i]:=by rw [List.getD_eq_getElem?_getD,List.getElem?_eq_getElem h1]; rfl
   exact ⟨by rw [h2]; exact List.mem_range.1 (hp.mem_iff.2 (List.getElem_mem h1)),h1,h2⟩
  have hkx:k≤x:=Nat.not_lt.1 fun q =>b2 (List.mem_range.2 q)
  have nd:ch.Nodup:=hp.nodup_iff.1 List.nodup_range
  have inj:∀ i j,i<n→j<n→ch.getD i 0=ch.getD j 0→i=j:=fun i j hi hj q =>by
   obtain ⟨_,h1,e1⟩:=gx i hi
   obtain ⟨_,h2,e2⟩:=gx j hj
   rw [e1,e2] at q
   exact (List.getElem_inj nd).1 q
  have tk:∀ j i,j≤n→i<n→(ch.getD i 0∈ch.take j↔i<j):=fun j i hj hi =>by
   obtain ⟨_,h1,e1⟩:=gx i hi
   constructor
   ·intro q
    obtain ⟨m,hm,q2⟩:=List.getElem_of_mem q
    rw [List.length_take] at hm
    rw [List.getElem_take] at q2
    have hm2:m<ch.length:=by omega
    have:=(List.getElem_inj (i:=m) (j:=i) nd).1 (q2.trans e1)
    omega
   ·intro q
    rw [e1]
    exact List.mem_iff_getElem.2 ⟨i,by rw [List.length_take]; omega,List.getElem_take⟩
  by_cases hkn:k<n
  ·have av:Av n (dpL ind fun i =>L (ch.getD i 0)) (List.range k) k:=⟨hkn,fun q =>absurd (List.mem_range.1 q) (Nat.lt_irrefl k),fun i hi _ =>List.mem_range.2 hi⟩
   rcases b4 k av with q | ⟨_,q⟩
   ·exfalso
    have hxk:k<x:=by
     rcases Nat.lt_or_ge k x with w | w
     ·exact w
     ·have:x=k:=by omega
      rw [this] at q; exact absurd q (Nat.lt_irrefl _)
    obtain ⟨_,hx1,ex⟩:=gx x b1
    obtain ⟨_,hk1,ek⟩:=gx k hkn
    have s1:ch=ch.take x++ch.getD x 0::ch.drop (x+1):=by rw [ex,← List.drop_eq_getElem_cons hx1,List.take_append_drop]
    have s2:ch=ch.take k++ch.getD k 0::ch.drop (k+1):=by rw [ek,← List.drop_eq_getElem_cons hk1,List.take_append_drop]
    have B1:=(hc _ _ _ s1).1
    have B2:=(hc _ _ _ s2).2
    have av2:Av n (dpL ind L) (ch.take k) (ch.getD x 0):=⟨(gx x b1).1,fun w =>by have:=(tk k x (by omega) b1).1 w; omega,fun p hpx hd =>by
     have hpm:=B1.2.2 p hpx hd
     obtain ⟨m,hm,q2⟩:=List.getElem_of_mem hpm
     rw [List.length_take] at hm
     rw [List.getElem_take] at q2
     have hmn:m<n:=by omega
     obtain ⟨_,_,em⟩:=gx m hmn
     have em2:ch.getD m 0=p:=em.trans q2
     have:=b3 m (by omega) (by rw [← em2] at hd; exact hd)
     rw [← em2]
     exact (tk k m (by omega) hmn).2 (List.mem_range.1 this)⟩
    have q:(L (ch.getD x 0)).1<(L (ch.getD k 0)).1:=q
    rcases B2 _ av2 with w | ⟨w,_⟩
    ·have w:(L (ch.getD k 0)).1<(L (ch.getD x 0)).1:=w
     omega
    ·have w:(L (ch.getD k 0)).1=(L (ch.getD x 0)).1:=w
     omega
   ·omega
  ·omega
end
end
section
open Go Go.RowKit
set_option maxRecDepth 100000
variable [Tb]
abbrev MS:=WorkS⊕ClieS
noncomputable def mS (c:Cfg) (m:Nat):MS→EnvP→MS×EnvP
 | .inl k,e =>(.inl (abe (m:Int) e k).1,(abe (m:Int) e k).2)
 | .inr k,e =>(.inr (aiB c.subs c.workers e k).2.1,(aiB c.subs c.workers e k).2.2)
structure EgC where
 e:EnvP
 ms:Nat→MS
noncomputable def aht (c:Cfg) (m:Nat) (g:EgC):EgC:=⟨(mS c m (g.ms m) g.e).2,aez g.ms m (mS c m (g.ms m) g.e).1⟩
def ayf (m m':MemV):Int×Int:=if m.count<m'.count then (m'.last.kind,m'.last.cell) else (0,0)
noncomputable def auE (c:Cfg) (m:Nat) (g:EgC):Int×Int:=ayf g.e.m (aht c m g).e.m
def GR (s t:EgC):Prop:=Cor s.e t.e∧s.ms=t.ms
def amq (a b:Int×Int):Prop:=a.1=0∨b.1=0∨a.2≠b.2∨(a.1=1∧b.1=1)
def aBl (c:Cfg) (N:Nat) (vs:Nat→Vw) (m:Nat):MS→Prop
 | .inl k =>(m:Int)<c.workers∧ahg (1+3*N) (mnC c) k∧asN c k∧auu k∧vwW k=vs m
 | .inr k =>(m:Int)=c.workers∧aBa c k∧vwC k=vs m
structure GD (c:Cfg) (N:Nat) (g:EgC) (vs:Nat→Vw):Prop where
 d:DL c N g.e vs
 m:∀ m:Nat,(m:Int)≤c.workers→aBl c N vs m (g.ms m)
def GIn (c:Cfg) (N:Nat) (g:EgC):Prop:=∃ vs,GD c N g vs
section
variable {c:Cfg} {N:Nat} {e:EnvP} {g s t:EgC} {vs:Nat→Vw} {m m1 m2:Nat} {x:MS} {D D1 D2:Dl}
def aDx (n:Nat) (D:Dl):Int×Int:=match D.ad with
 | none =>(0,0)
 | some (k,a) =>if 0≤a∧a<(n:Int) then (k,a) else (0,0)
theorem aq7 (h:0≤e.m.count∧e.m.count≤1000000):ayf e.m (ap D e).m=aDx e.m.cells.length D:=by
 show ayf e.m (D.mem e.m)=_
 unfold ayf aDx Dl.mem
 cases D.ad with
 | none =>exact if_neg (Int.lt_irrefl _)
 | some p =>
  obtain ⟨k,a⟩:=p
  show (if e.m.count<(e.m.pt k a D.v).count then ((e.m.pt k a D.v).last.kind,(e.m.pt k a D.v).last.cell) else (0,0))=if 0≤a∧a<(e.m.cells.length:Int) then (k,a) else (0,0)
  unfold MemV.pt
  by_cases q:0≤a∧a<(e.m.cells.length:Int)
  ·rw [if_pos q,if_pos q]
   refine if_pos ?_
   show e.m.count<wi (e.m.count+1)
   rw [aaM (aas (by omega))]; omega
  ·rw [if_neg q,if_neg q]
   exact if_neg (Int.lt_irrefl _)
theorem aJ1 (k1:aDB e D1) (h:amq (aDx e.m.cells.length D1) (aDx e.m.cells.length D2)) (k2:∀ k a,D2.ad=some (k,a)→k≠0):InD e.m.cells.length D1 D2:=fun a1 a2 a h1 h2 hr =>by
 unfold amq aDx at h
 rw [h1,h2] at h
 simp only [if_pos hr] at h
 have n1:a1≠0:=by rcases k1 a1 a h1 with q | q; omega; omega
 have n2:=k2 a2 a h2
 rcases h with h | h | h | h
 ·exact absurd h n1
 ·exact absurd h n2
 ·exact absurd rfl h
 ·exact h
theorem aId (h:DL c N e vs) (hx:aBl c N vs m x):Loc (Ow c e (m:Int) (vs m)) (mS c m x) e:=by
 cases x with
 | inl k =>
  obtain ⟨_,_,h2,h3,h4⟩:=hx
  rw [← h4]
  exact .mapP (aBm (w:=(m:Int)) h.m h2 h3) Sum.inl fun f b =>rfl
 | inr k =>
  obtain ⟨h1,h2,h3⟩:=hx
  rw [← h3,h1]
  exact .mapP (aDa (k:=k) (me:=c.workers) h.m.cc) (fun r =>Sum.inr r.2) fun f b =>rfl
theorem aFG (h:DL c N e vs) (hN:N≤100000) (hx:aBl c N vs m x):∃ v',DL c (N+1) (mS c m x e).2 (aez vs m v')∧aBl c (N+1) (aez vs m v') m (mS c m x e).1:=by
 have h0:=h.m.p 0
 have hnx:=h.nx
 cases x with
 | inl k =>
  obtain ⟨hm,hk,hg,hh,hv⟩:=hx
  have hk':=hk
  rw [← h.ei.many] at hk'
  have s2:=ayk (w:=(m:Int)) h.ei.ok k
  have s3:=ayj (w:=(m:Int)) h.ei.ok k hk' (by omega)
  have s4:=ayi (w:=(m:Int)) h.m h.n hg
  have s5:=aDC (w:=(m:Int)) h.m h.n ⟨h0,by omega⟩ h.li.rl hg hh
  rw [h.ei.many] at s3
  rw [hv] at s5
  refine ⟨_,h.stp hN s2 s4.1 s5.1,hm,s3.up (by omega),s4.2,s5.2,?_⟩
  exact aa5.symm
 | inr k =>
  obtain ⟨hm,hk,hv⟩:=hx
  have s2:=aAu (subs:=c.subs) (me:=c.workers) h.ei.ok k
  have s4:=aAt (me:=c.workers) h.m h.n hk
  have s5:=aEd (me:=c.workers) h.m h.n ⟨h0,by omega⟩ h.li.rl hk
  rw [hv] at s5
  refine ⟨_,h.stp hN s2 s4.1 s5,hm,s4.2,?_⟩
  exact aa5.symm
theorem aBl.next (h:aBl c N vs m2 x) {v:Vw} (hne:m2≠m1):aBl c (N+1) (aez vs m1 v) m2 x:=by
 cases x with
 | inl k =>
  obtain ⟨h1,h2,h3⟩:=h
  refine ⟨h1,h2.up (by omega),?_⟩
  rw [abI hne]; exact h3
 | inr k =>
  obtain ⟨h1,h2⟩:=h
  refine ⟨h1,?_⟩
  rw [abI hne]; exact h2
theorem avw (h:GD c N g vs) (hN:N≤100000) (hm:(m:Int)≤c.workers):∃ v',GD c (N+1) (aht c m g) (aez vs m v'):=by
 obtain ⟨v',h1,h2⟩:=aFG h.d hN (h.m m hm)
 refine ⟨v',h1,fun j hj =>?_⟩
 by_cases q:j=m
 ·subst q
  show aBl c (N+1) _ j (aez g.ms j _ j)
  rw [aa5]; exact h2
 ·show aBl c (N+1) _ j (aez g.ms m _ j)
  rw [abI q]; exact (h.m j hj).next q
theorem az1 (h:GD c N g vs) (hm:(m:Int)≤c.workers):∃ s D,mS c m (g.ms m) g.e=(s,ap D g.e)∧Ow c g.e (m:Int) (vs m) D∧(∀ f,Ag D g.e f→mS c m (g.ms m) f=(s,ap D f)):=aId h.d (h.m m hm)
theorem am6 {q:MS} (h:mS c m (g.ms m) g.e=(q,ap D g.e)):aht c m g=⟨ap D g.e,aez g.ms m q⟩:=by unfold aht; rw [h]
theorem aBt {α:Type} {f:Nat→α} {a b:α} (h:m1≠m2):aez (aez f m1 a) m2 b=aez (aez f m2 b) m1 a:=funext fun j =>by
 unfold aez
 by_cases k1:j=m1
 ·have:j≠m2:=fun q =>h (k1.symm.trans q)
  rw [if_pos k1,if_neg this,if_pos k1]
 ·rw [if_neg k1,if_neg k1]
theorem aC1 (h:DL c N e vs) (hN:N≤100001):0≤e.m.count∧e.m.count≤1000000:=by
 have:=h.ei.ct
 omega
theorem aHM {v:Vw} {w:Int} (h:Ow c e w v D):∀ t∈D.rd,0≤t:=fun t ht =>(h.rd t ht).1.1
theorem aKz (h:aDB e D):∀ k a,D.ad=some (k,a)→k≠0:=fun k a q =>by rcases h k a q with w | w<;>omega
theorem aKI (c:Cfg):Sys (aht c) (auE c) GR (GIn c) amq 100000 c.workers.toNat where
 r0 s:=⟨.refl,rfl⟩
 r2 h1 h2:=⟨h1.1.trans h2.1,h1.2.trans h2.2⟩
 rs {N s t m} hi hr hN hm:=by
  obtain ⟨vs,h⟩:=hi
  have hw:1≤c.workers:=h.d.m.d.w.1
  obtain ⟨q,D,e1,o1,l1⟩:=az1 (m:=m) h (by omega)
  have e2:=l1 t.e hr.1.ag
  rw [hr.2] at e2
  have g1:=am6 e1
  have g2:aht c m t=⟨ap D t.e,aez t.ms m q⟩:=am6 e2
  refine ⟨⟨by rw [g1,g2]; exact hr.1.ap,by rw [g1,g2,hr.2]⟩,?_⟩
  have ct:=aC1 h.d (by omega)
  unfold auE
  rw [g1,g2]
  show ayf s.e.m (ap D s.e).m=ayf t.e.m (ap D t.e).m
  rw [aq7 ct,aq7 (by rw [hr.1.n]; exact ct),hr.1.m]
 i {N s m} hi hN hm:=by
  obtain ⟨vs,h⟩:=hi
  have hw:1≤c.workers:=h.d.m.d.w.1
  obtain ⟨v',h2⟩:=avw (m:=m) h hN (by omega)
  exact ⟨_,h2⟩
 d {N s m1 m2} hi hN hm1 hm2 hne hind:=by
  obtain ⟨vs,h⟩:=hi
  have hw:1≤c.workers:=h.d.m.d.w.1
  obtain ⟨q1,D1,e1,o1,l1⟩:=az1 (m:=m1) h (by omega)
  obtain ⟨v',h2⟩:=avw (m:=m1) h (by omega) (by omega)
  obtain ⟨q2,D2,e2,o2,l2⟩:=az1 (m:=m2) h2 (by omega)
  have g1:=am6 e1
  have em2:(aht c m1 s).ms m2=s.ms m2:=abI (fun k =>hne k.symm)
  have ee1:(aht c m1 s).e=ap D1 s.e:=by rw [g1]
  have ev2:aez vs m1 v' m2=vs m2:=abI (fun k =>hne k.symm)
  rw [ev2] at o2
  have g2:=am6 e2
  rw [em2] at e2 l2
  rw [ee1] at e2 o2 l2
  have ct:=aC1 h.d (by omega)
  have ct1:=aC1 h2.d (by omega)
  rw [ee1] at ct1
  have a1:auE c m1 s=aDx s.e.m.cells.length D1:=by
   unfold auE; rw [g1]; exact aq7 ct
  have a2:auE c m2 (aht c m1 s)=aDx s.e.m.cells.length D2:=by
   unfold auE; rw [g2,ee1]
   show ayf (ap D1 s.e).m (ap D2 (ap D1 s.e)).m=_
   rw [aq7 ct1]
   show aDx (D1.mem s.e.m).cells.length D2=_
   rw [amX]
  rw [a1,a2] at hind
  have hI:=aJ1 o1.k hind (aKz o2.k)
  have nx0:=h.d.m.p 0
  have nx1:=h.d.nx
  have dj:∀ t∈D1.rd,t ∉ D2.rd:=fun t ht1 ht2 =>aHK h.d.m h.d.n h.d.li ⟨nx0,by omega⟩ hne (o1.rd t ht1) (o2.rd t ht2) hI
  obtain ⟨ag2,ag1,ak2,cr⟩:=aGs o1.k o2.k hI o1.rs o2.rs (aHM o1) (aHM o2) dj
  have f2:=l2 s.e ag2
  have gg2:aht c m2 s=⟨ap D2 s.e,aez s.ms m2 q2⟩:=am6 f2
  have em1:(aht c m2 s).ms m1=s.ms m1:=abI hne
  have ee2:(aht c m2 s).e=ap D2 s.e:=by rw [gg2]
  have f1:mS c m1 ((aht c m2 s).ms m1) (aht c m2 s).e=(q1,ap D1 (aht c m2 s).e):=by rw [em1,ee2]; exact l1 _ ag1
  have gg1:=am6 f1
  refine ⟨⟨?_,?_⟩,?_,?_⟩
  ·rw [g2,gg1,ee1,ee2]; exact cr
  ·rw [g2,gg1,g1,gg2]; exact aBt hne
  ·rw [a2]
   unfold auE; rw [gg2]; exact aq7 ct
  ·rw [a1]
   unfold auE; rw [gg1,ee2]
   have ct2:0≤(ap D2 s.e).m.count∧(ap D2 s.e).m.count≤1000000:=by
    obtain ⟨v2,h3⟩:=avw (m:=m2) h (by omega) (by omega)
    have:=aC1 h3.d (by omega)
    rw [ee2] at this; exact this
   show ayf (ap D2 s.e).m (ap D1 (ap D2 s.e)).m=_
   rw [aq7 ct2]
   show aDx (D2.mem s.e.m).cells.length D1=_
   rw [amX]
end
abbrev aqu (xs:List AccV) (i:Int):AccV:=atL (dfR 60:TR 60) xs i
noncomputable def aol (b:List Int):Option ((List EntV×Unit)×(Unit)) :=
 (lpF (σ:=List EntV×Int×Unit) (β:=List EntV×Int×Unit) (fun self3 x1 =>
 if (wi (x1.2.1+1))<((b.length:Nat):Int) then
 if ((x1.1.length:Nat):Int)<65536 then
 if 0≤x1.2.1∧x1.2.1<((b.length:Nat):Int) then
 if 0≤wi (x1.2.1+1)∧wi (x1.2.1+1)<((b.length:Nat):Int) then
 if (ai1 b (wi (x1.2.1+1)))=(ai1 b (wi (x1.2.1+1))) then
 if (ai1 b x1.2.1)=(ai1 b x1.2.1) then
 if (Int.tmod (wi (ai1 b x1.2.1)) 4)=1 then
 if (((x1.1.length+([(⟨(Int.tmod (wi (ai1 b x1.2.1)) 4),0⟩:EntV)]:List EntV).length:Nat)):Int)<1000000000000 then
 self3 (x1.1++([(⟨(Int.tmod (wi (ai1 b x1.2.1)) 4),0⟩:EntV)]),wi (x1.2.1+2),())
 else none
 else
 if (Int.tmod (wi (ai1 b x1.2.1)) 4)=3 then
 if (((x1.1.length+([(⟨(Int.tmod (wi (ai1 b x1.2.1)) 4),0⟩:EntV)]:List EntV).length:Nat)):Int)<1000000000000 then
 self3 (x1.1++([(⟨(Int.tmod (wi (ai1 b x1.2.1)) 4),0⟩:EntV)]),wi (x1.2.1+2),())
 else none
 else
 if (((x1.1.length+([(⟨(Int.tmod (wi (ai1 b x1.2.1)) 4),wi (ai1 b (wi (x1.2.1+1)))⟩:EntV)]:List EntV).length:Nat)):Int)<1000000000000 then
 self3 (x1.1++([(⟨(Int.tmod (wi (ai1 b x1.2.1)) 4),wi (ai1 b (wi (x1.2.1+1)))⟩:EntV)]),wi (x1.2.1+2),())
 else none
 else none
 else none
 else none
 else none
 else
 some (x1.1,x1.2.1,())
 else
 some (x1.1,x1.2.1,())
 ) 18446744073709551616 ([],0,())).bind fun z2 =>
 some ((z2.1,()),())
noncomputable abbrev aqE:Con SR1:=⟨22,[.sh (.ro 17)],[.sh (.row 5)],fun x =>aol x.1⟩
theorem auY:CO Tryz.prog aqE:=aan aak Tryz.func22 [] trivial [(3,.loop [.rg 3 (.row 5),.rg 4 sI_] 18446744073709551616 0)]
noncomputable def akP (b:List Int) (n:Int):Option ((List EntV×Unit)×(Unit)) :=
 (aol b).bind fun r1 =>
 if n<((r1.1.1.length:Nat):Int) then
 if 0≤n∧n≤((r1.1.1.length:Nat):Int) then
 some ((r1.1.1.take (n:Int).toNat,()),())
 else none
 else
 some ((r1.1.1,()),())
noncomputable abbrev aju:Con SR1:=⟨8,[.sh (.ro 17),.sh sI_],[.sh (.row 5)],fun x =>akP x.1 x.2.1⟩
theorem aj1:CO Tryz.prog aju:=aan aak Tryz.func8 [aqE] ⟨auY,trivial⟩
noncomputable def ae9 (y0:Int):Option ((EntV×Unit)×(Unit)) :=
 some (((⟨0,y0⟩:EntV),()),())
noncomputable abbrev agu:Con SR1:=⟨17,[.sh sI_],[.val 5],fun x =>ae9 x.1⟩
theorem akb:CO Tryz.prog agu:=aan aak Tryz.func17 [] trivial
noncomputable def abr (y0:Cfg):Option ((List EntV×Unit)×(Unit)) :=
 (lpF (σ:=List EntV×Int×Unit) (β:=List EntV×Int×Unit) (fun self3 x1 =>
 if x1.2.1<(wi (40*((y0.subs.length:Nat):Int))) then
 (ae9 y0.workers).bind fun r4 =>
 if (((x1.1.length+([r4.1.1]:List EntV).length:Nat)):Int)<1000000000000 then
 self3 (x1.1++([r4.1.1]),wi (x1.2.1+1),())
 else none
 else
 some (x1.1,x1.2.1,())
 ) 18446744073709551616 ([],0,())).bind fun z2 =>
 some ((z2.1,()),())
noncomputable abbrev ab7:Con SR1:=⟨9,[.val 13],[.sh (.row 5)],fun x =>abr x.1⟩
theorem acK:CO Tryz.prog ab7:=aan aak Tryz.func9 [agu] ⟨akb,trivial⟩ [(3,.loop [.rg 3 (.row 5),.rg 4 sI_] 18446744073709551616 0)]
noncomputable def adF (y0:Int) (y1:Int):Option ((Int×Unit)×(Unit)) :=
 if y1<1 then
 some ((0,()),())
 else
 if y1≠0 then
 if (Int.tmod y0 y1)<0 then
 if y1≠0 then
 some ((wi ((Int.tmod y0 y1)+y1),()),())
 else none
 else
 if y1≠0 then
 some (((Int.tmod y0 y1),()),())
 else none
 else none
noncomputable abbrev acn:Con SR1:=⟨13,[.sh sI_,.sh sI_],[.sh sI_],fun x =>adF x.1 x.2.1⟩
theorem acR:CO Tryz.prog acn:=aan aak Tryz.func13 [] trivial
noncomputable def ach (y0:AccV) (y1:AccV):Option ((Bool×Unit)×(Unit)) :=
 if y0.kind=0 then
 some ((true,()),())
 else
 if y1.kind=0 then
 some ((true,()),())
 else
 if y0.cell≠y1.cell then
 some ((true,()),())
 else
 if y0.kind=1 then
 some ((decide (y1.kind=1),()),())
 else
 some ((false,()),())
noncomputable abbrev abQ:Con SR1:=⟨25,[.val 60,.val 60],[.sh .b],fun x =>ach x.1 x.2.1⟩
theorem aca:CO Tryz.prog abQ:=aan aak Tryz.func25 [] trivial
noncomputable def acQ (y0:List Int) (y1:List Int):Option ((Bool×Unit)×(Unit)) :=
 if ((y0.length:Nat):Int)≠((y1.length:Nat):Int) then
 some ((false,()),())
 else
 (lpF (σ:=Int×Unit) (β:=(Int×Unit)⊕((Bool×Unit)×(Unit))) (fun self3 x1 =>
 if x1.1<((y0.length:Nat):Int) then
 if 0≤x1.1∧x1.1<((y0.length:Nat):Int) then
 if 0≤x1.1∧x1.1<((y1.length:Nat):Int) then
 if (abn y0 x1.1)≠(abn y1 x1.1) then
 Option.map Sum.inr (
 some ((false,()),())
 )
 else
 self3 (wi (x1.1+1),())
 else none
 else none
 else
 some (Sum.inl (x1.1,()))
 ) 18446744073709551616 (0,())).bind fun z2 =>match z2 with
 | .inr o4 =>some o4
 | .inl z2 =>
 some ((true,()),())
noncomputable abbrev abP:Con SR1:=⟨12,[.sh (.ro 1),.sh (.ro 1)],[.sh .b],fun x =>acQ x.1 x.2.1⟩
theorem ab5:CO Tryz.prog abP:=aan aak Tryz.func12 [] trivial [(4,.loopR [.rg 5 sI_] 18446744073709551616 0)]
def aA3 {α:Type} (x:A64) (i:Int) (K:Int→Option α):Option α :=
 if i=((63:Nat):Int) then K x.a63 else
 if i=((62:Nat):Int) then K x.a62 else
 if i=((61:Nat):Int) then K x.a61 else
 if i=((60:Nat):Int) then K x.a60 else
 if i=((59:Nat):Int) then K x.a59 else
 if i=((58:Nat):Int) then K x.a58 else
 if i=((57:Nat):Int) then K x.a57 else
 if i=((56:Nat):Int) then K x.a56 else
 if i=((55:Nat):Int) then K x.a55 else
 if i=((54:Nat):Int) then K x.a54 else
 if i=((53:Nat):Int) then K x.a53 else
 if i=((52:Nat):Int) then K x.a52 else
 if i=((51:Nat):Int) then K x.a51 else
 if i=((50:Nat):Int) then K x.a50 else
 if i=((49:Nat):Int) then K x.a49 else
 if i=((48:Nat):Int) then K x.a48 else
 if i=((47:Nat):Int) then K x.a47 else
 if i=((46:Nat):Int) then K x.a46 else
 if i=((45:Nat):Int) then K x.a45 else
 if i=((44:Nat):Int) then K x.a44 else
 if i=((43:Nat):Int) then K x.a43 else
 if i=((42:Nat):Int) then K x.a42 else
 if i=((41:Nat):Int) then K x.a41 else
 if i=((40:Nat):Int) then K x.a40 else
 if i=((39:Nat):Int) then K x.a39 else
 if i=((38:Nat):Int) then K x.a38 else
 if i=((37:Nat):Int) then K x.a37 else
 if i=((36:Nat):Int) then K x.a36 else
 if i=((35:Nat):Int) then K x.a35 else
 if i=((34:Nat):Int) then K x.a34 else
 if i=((33:Nat):Int) then K x.a33 else
 if i=((32:Nat):Int) then K x.a32 else
 if i=((31:Nat):Int) then K x.a31 else
 if i=((30:Nat):Int) then K x.a30 else
 if i=((29:Nat):Int) then K x.a29 else
 if i=((28:Nat):Int) then K x.a28 else
 if i=((27:Nat):Int) then K x.a27 else
 if i=((26:Nat):Int) then K x.a26 else
 if i=((25:Nat):Int) then K x.a25 else
 if i=((24:Nat):Int) then K x.a24 else
 if i=((23:Nat):Int) then K x.a23 else
 if i=((22:Nat):Int) then K x.a22 else
 if i=((21:Nat):Int) then K x.a21 else
 if i=((20:Nat):Int) then K x.a20 else
 if i=((19:Nat):Int) then K x.a19 else
 if i=((18:Nat):Int) then K x.a18 else
 if i=((17:Nat):Int) then K x.a17 else
 if i=((16:Nat):Int) then K x.a16 else
 if i=((15:Nat):Int) then K x.a15 else
 if i=((14:Nat):Int) then K x.a14 else
 if i=((13:Nat):Int) then K x.a13 else
 if i=((12:Nat):Int) then K x.a12 else
 if i=((11:Nat):Int) then K x.a11 else
 if i=((10:Nat):Int) then K x.a10 else
 if i=((9:Nat):Int) then K x.a9 else
 if i=((8:Nat):Int) then K x.a8 else
 if i=((7:Nat):Int) then K x.a7 else
 if i=((6:Nat):Int) then K x.a6 else
 if i=((5:Nat):Int) then K x.a5 else
 if i=((4:Nat):Int) then K x.a4 else
 if i=((3:Nat):Int) then K x.a3 else
 if i=((2:Nat):Int) then K x.a2 else
 if i=((1:Nat):Int) then K x.a1 else
 if i=((0:Nat):Int) then K x.a0 else none
def aJd {α:Type} (x:A64) (i:Int) (g:Prop) [Decidable g] (f:Int→Int) (K:A64→Option α):Option α :=
 if i=((63:Nat):Int) then if g then K { x with a63:=f x.a63 } else none else
 if i=((62:Nat):Int) then if g then K { x with a62:=f x.a62 } else none else
 if i=((61:Nat):Int) then if g then K { x with a61:=f x.a61 } else none else
 if i=((60:Nat):Int) then if g then K { x with a60:=f x.a60 } else none else
 if i=((59:Nat):Int) then if g then K { x with a59:=f x.a59 } else none else
 if i=((58:Nat):Int) then if g then K { x with a58:=f x.a58 } else none else
 if i=((57:Nat):Int) then if g then K { x with a57:=f x.a57 } else none else
 if i=((56:Nat):Int) then if g then K { x with a56:=f x.a56 } else none else
 if i=((55:Nat):Int) then if g then K { x with a55:=f x.a55 } else none else
 if i=((54:Nat):Int) then if g then K { x with a54:=f x.a54 } else none else
 if i=((53:Nat):Int) then if g then K { x with a53:=f x.a53 } else none else
 if i=((52:Nat):Int) then if g then K { x with a52:=f x.a52 } else none else
 if i=((51:Nat):Int) then if g then K { x with a51:=f x.a51 } else none else
 if i=((50:Nat):Int) then if g then K { x with a50:=f x.a50 } else none else
 if i=((49:Nat):Int) then if g then K { x with a49:=f x.a49 } else none else
 if i=((48:Nat):Int) then if g then K { x with a48:=f x.a48 } else none else
 if i=((47:Nat):Int) then if g then K { x with a47:=f x.a47 } else none else
 if i=((46:Nat):Int) then if g then K { x with a46:=f x.a46 } else none else
 if i=((45:Nat):Int) then if g then K { x with a45:=f x.a45 } else none else
 if i=((44:Nat):Int) then if g then K { x with a44:=f x.a44 } else none else
 if i=((43:Nat):Int) then if g then K { x with a43:=f x.a43 } else none else
 if i=((42:Nat):Int) then if g then K { x with a42:=f x.a42 } else none else
 if i=((41:Nat):Int) then if g then K { x with a41:=f x.a41 } else none else
 if i=((40:Nat):Int) then if g then K { x with a40:=f x.a40 } else none else
 if i=((39:Nat):Int) then if g then K { x with a39:=f x.a39 } else none else
 if i=((38:Nat):Int) then if g then K { x with a38:=f x.a38 } else none else
 if i=((37:Nat):Int) then if g then K { x with a37:=f x.a37 } else none else
 if i=((36:Nat):Int) then if g then K { x with a36:=f x.a36 } else none else
 if i=((35:Nat):Int) then if g then K { x with a35:=f x.a35 } else none else
 if i=((34:Nat):Int) then if g then K { x with a34:=f x.a34 } else none else
 if i=((33:Nat):Int) then if g then K { x with a33:=f x.a33 } else none else
 if i=((32:Nat):Int) then if g then K { x with a32:=f x.a32 } else none else
 if i=((31:Nat):Int) then if g then K { x with a31:=f x.a31 } else none else
 if i=((30:Nat):Int) then if g then K { x with a30:=f x.a30 } else none else
 if i=((29:Nat):Int) then if g then K { x with a29:=f x.a29 } else none else
 if i=((28:Nat):Int) then if g then K { x with a28:=f x.a28 } else none else
 if i=((27:Nat):Int) then if g then K { x with a27:=f x.a27 } else none else
 if i=((26:Nat):Int) then if g then K { x with a26:=f x.a26 } else none else
 if i=((25:Nat):Int) then if g then K { x with a25:=f x.a25 } else none else
 if i=((24:Nat):Int) then if g then K { x with a24:=f x.a24 } else none else
 if i=((23:Nat):Int) then if g then K { x with a23:=f x.a23 } else none else
 if i=((22:Nat):Int) then if g then K { x with a22:=f x.a22 } else none else
 if i=((21:Nat):Int) then if g then K { x with a21:=f x.a21 } else none else
 if i=((20:Nat):Int) then if g then K { x with a20:=f x.a20 } else none else
 if i=((19:Nat):Int) then if g then K { x with a19:=f x.a19 } else none else
 if i=((18:Nat):Int) then if g then K { x with a18:=f x.a18 } else none else
 if i=((17:Nat):Int) then if g then K { x with a17:=f x.a17 } else none else
 if i=((16:Nat):Int) then if g then K { x with a16:=f x.a16 } else none else
 if i=((15:Nat):Int) then if g then K { x with a15:=f x.a15 } else none else
 if i=((14:Nat):Int) then if g then K { x with a14:=f x.a14 } else none else
 if i=((13:Nat):Int) then if g then K { x with a13:=f x.a13 } else none else
 if i=((12:Nat):Int) then if g then K { x with a12:=f x.a12 } else none else
 if i=((11:Nat):Int) then if g then K { x with a11:=f x.a11 } else none else
 if i=((10:Nat):Int) then if g then K { x with a10:=f x.a10 } else none else
 if i=((9:Nat):Int) then if g then K { x with a9:=f x.a9 } else none else
 if i=((8:Nat):Int) then if g then K { x with a8:=f x.a8 } else none else
 if i=((7:Nat):Int) then if g then K { x with a7:=f x.a7 } else none else
 if i=((6:Nat):Int) then if g then K { x with a6:=f x.a6 } else none else
 if i=((5:Nat):Int) then if g then K { x with a5:=f x.a5 } else none else
 if i=((4:Nat):Int) then if g then K { x with a4:=f x.a4 } else none else
 if i=((3:Nat):Int) then if g then K { x with a3:=f x.a3 } else none else
 if i=((2:Nat):Int) then if g then K { x with a2:=f x.a2 } else none else
 if i=((1:Nat):Int) then if g then K { x with a1:=f x.a1 } else none else
 if i=((0:Nat):Int) then if g then K { x with a0:=f x.a0 } else none else none
@[reducible] def aGH (a b : Int) : Int := IntKind.u64.wrap (BitVec.ofInt IntKind.u64.bits a &&& ~~~ BitVec.ofInt IntKind.u64.bits b).toNat
abbrev sh1 (i:Int):Int:=wu (1*2 ^ min (wu i:Int).toNat IntKind.u64.bits)
def aAI {α:Type} (a:A64) (j i:Int) (K:A64→Option α):Option α :=
 aJd a j (0≤wu i) (fun v =>orU v (sh1 i)) K
noncomputable def aGC (ac:List AccV) (ms:List Int) (j:Int) (self:Int×A64×Unit→Option (Int×A64×Unit)) (x:Int×A64×Unit):Option (Int×A64×Unit) :=
 if x.1<j then
 if 0≤x.1∧x.1<((ms.length:Nat):Int) then
 if 0≤j∧j<((ms.length:Nat):Int) then
 if (abn ms x.1)=(abn ms j) then aAI x.2.1 j x.1 fun a =>self (wi (x.1+1),a,())
 else
 if 0≤x.1∧x.1<((ac.length:Nat):Int) then
 if 0≤j∧j<((ac.length:Nat):Int) then
 (ach (aqu ac x.1) (aqu ac j)).bind fun r =>
 if (!r.1.1)=true then aAI x.2.1 j x.1 fun a =>self (wi (x.1+1),a,())
 else self (wi (x.1+1),x.2.1,())
 else none
 else none
 else none
 else none
 else some (x.1,x.2.1,())
noncomputable def avQ (c:Cfg) (ac:List AccV) (y2:List Int) (self:Int×List Int×A64×Unit→Option (Int×List Int×A64×Unit)) (x:Int×List Int×A64×Unit):Option (Int×List Int×A64×Unit) :=
 if x.1<((y2.length:Nat):Int) then
 if 0≤x.1∧x.1<((y2.length:Nat):Int) then
 (atz (abn y2 x.1) (wi (c.workers+1))).bind fun r =>
 if 0≤x.1∧x.1<((x.2.1.length:Nat):Int) then
 (lpF (aGC ac (x.2.1.set x.1.toNat r.1.1) x.1) 18446744073709551616 (0,x.2.2.1,())).bind fun z =>
 self (wi (x.1+1),x.2.1.set x.1.toNat r.1.1,z.2.1,())
 else none
 else none
 else some (x.1,x.2.1,x.2.2.1,())
noncomputable def avR (ms:List Int) (nd:A64) (done:Int) (self:Int×Int×Unit→Option (Int×Int×Unit)) (x:Int×Int×Unit):Option (Int×Int×Unit) :=
 if x.2.1<((ms.length:Nat):Int) then
 if 0≤x.2.1∧x.2.1<((ms.length:Nat):Int) then
 if 0≤wu (x.2.1) then
 if (ani (Int.fdiv done (2 ^ min (wu (x.2.1):Int).toNat IntKind.u64.bits)) 1)=0 then
 aA3 nd x.2.1 fun v =>
 if (aGH v done)=0 then
 if x.1<0 then self (x.2.1,wi (x.2.1+1),())
 else
 if 0≤x.1∧x.1<((ms.length:Nat):Int) then
 if (abn ms x.2.1)<(abn ms x.1) then self (x.2.1,wi (x.2.1+1),())
 else self (x.1,wi (x.2.1+1),())
 else none
 else self (x.1,wi (x.2.1+1),())
 else self (x.1,wi (x.2.1+1),())
 else none
 else none
 else some (x.1,x.2.1,())
noncomputable def avP (y2 ms:List Int) (nd:A64) (self:List Int×Int×Int×Unit→Option (List Int×Int×Int×Unit)) (x:List Int×Int×Int×Unit):Option (List Int×Int×Int×Unit) :=
 if x.2.2.1<((y2.length:Nat):Int) then
 (lpF (avR ms nd x.2.1) 18446744073709551616 ((-1),0,())).bind fun z =>
 if 0≤wu (z.1) then
 if 0≤z.1∧z.1<((ms.length:Nat):Int) then
 if (((x.1.length+([abn ms z.1]:List Int).length:Nat)):Int)<1000000000000 then
 self (x.1++([abn ms z.1]),orU x.2.1 (sh1 z.1),wi (x.2.2.1+1),())
 else none
 else none
 else none
 else some (x.1,x.2.1,x.2.2.1,())
noncomputable def aDi (c:Cfg) (y2:List Int) (r1:(List AccV×Int×Unit)×(Unit)):Option ((List Int×Int×Unit)×(Unit)) :=
 if r1.1.2.1≠0 then some (([],r1.1.2.1,()),())
 else
 if ((y2.length:Nat):Int)=((y2.length:Nat):Int) then
 if 0≤((y2.length:Nat):Int)∧((y2.length:Nat):Int)≤1099511627776 then
 (lpF (avQ c r1.1.1 y2) 18446744073709551616 (0,List.replicate (((y2.length:Nat):Int):Int).toNat (0:Int),(⟨0,0,0,0,0,0,0,0,0,0,0,0,0,0,0,0,0,0,0,0,0,0,0,0,0,0,0,0,0,0,0,0,0,0,0,0,0,0,0,0,0,0,0,0,0,0,0,0,0,0,0,0,0,0,0,0,0,0,0,0,0,0,0,0⟩:A64),())).bind fun z3 =>
 (lpF (avP y2 z3.2.1 z3.2.2.1) 18446744073709551616 ([],0,0,())).bind fun z11 =>
 some ((z11.1,0,()),())
 else none
 else none
abbrev ah9:=Int×List Int×Int×Int×Int×Int×Unit
noncomputable def aeK {σ:Type} (c0:Int) (env:EnvP) (eng:ah9) (self:EnvP→ah9→Option σ):Option σ :=
 (aaS env.m).bind fun r22 =>
 if c0<r22.1.1 then
 (afY r22.2.1).bind fun r23 =>
 (lpF (σ:=EnvP×(Int×List Int×Int×Int×Int×Int×Unit)×Unit) (β:=EnvP×(Int×List Int×Int×Int×Int×Int×Unit)×Unit) (fun self26 x24 =>
 if ((x24.2.1.2.1.length:Nat):Int)<((x24.1.evs.length:Nat):Int) then
 if (((x24.2.1.2.1.length+([x24.2.1.1]:List Int).length:Nat)):Int)<1000000000000 then
 self26 (x24.1,(x24.2.1.1,x24.2.1.2.1++([x24.2.1.1]),x24.2.1.2.2.1,x24.2.1.2.2.2.1,x24.2.1.2.2.2.2.1,x24.2.1.2.2.2.2.2.1,()),())
 else none
 else
 some (x24.1,x24.2.1,())
 ) 18446744073709551616 (({ env with m:=r23.2.1 }:EnvP),(eng.1,eng.2.1,r23.1.1.kind,r23.1.1.cell,r23.1.1.old,r23.1.1.new,()),())).bind fun z25 =>
 self z25.1 (wi (z25.2.1.1+1),z25.2.1.2.1,z25.2.1.2.2.1,z25.2.1.2.2.2.1,z25.2.1.2.2.2.2.1,z25.2.1.2.2.2.2.2.1,())
 else
 (lpF (σ:=EnvP×(Int×List Int×Int×Int×Int×Int×Unit)×Unit) (β:=EnvP×(Int×List Int×Int×Int×Int×Int×Unit)×Unit) (fun self29 x27 =>
 if ((x27.2.1.2.1.length:Nat):Int)<((x27.1.evs.length:Nat):Int) then
 if (((x27.2.1.2.1.length+([x27.2.1.1]:List Int).length:Nat)):Int)<1000000000000 then
 self29 (x27.1,(x27.2.1.1,x27.2.1.2.1++([x27.2.1.1]),x27.2.1.2.2.1,x27.2.1.2.2.2.1,x27.2.1.2.2.2.2.1,x27.2.1.2.2.2.2.2.1,()),())
 else none
 else
 some (x27.1,x27.2.1,())
 ) 18446744073709551616 (({ env with m:=r22.2.1 }:EnvP),(eng.1,eng.2.1,0,0,0,0,()),())).bind fun z28 =>
 self z28.1 (wi (z28.2.1.1+1),z28.2.1.2.1,z28.2.1.2.2.1,z28.2.1.2.2.2.1,z28.2.1.2.2.2.2.1,z28.2.1.2.2.2.2.2.1,())
abbrev auz:=Int×EnvP×(WorkerV MV)×(ClientV MV)×(Int×List Int×Int×Int×Int×Int×Unit)×Unit
noncomputable def ahA (l:List EntV) (x12:auz) (r15:(Int×Unit)×(MemV×Unit)) :=
 ((
 if ((aq2 l x12.1).kind)=0 then
 (acp (aq2 l x12.1) 2).bind fun r16 =>
 if r16.1.1=((1:Nat):Int) then
 (aao x12.2.2.2.1 ({ x12.2.1 with m:=r15.2.1 }:EnvP)).bind fun r17 =>
 some (r17.2.2.1,x12.2.2.1,r17.2.1,x12.2.2.2.2.1,())
 else
 if r16.1.1=((0:Nat):Int) then
 (aah x12.2.2.1 ({ x12.2.1 with m:=r15.2.1 }:EnvP)).bind fun r18 =>
 some (r18.2.2.1,r18.2.1,x12.2.2.2.1,x12.2.2.2.2.1,())
 else
 none
 else
 if ((aq2 l x12.1).kind)=1 then
 (ael x12.2.1.k).bind fun r19 =>
 some (({ x12.2.1 with m:=r15.2.1,k:=r19.2.1 }:EnvP),x12.2.2.1,x12.2.2.2.1,x12.2.2.2.2.1,())
 else
 if ((aq2 l x12.1).kind)=2 then
 (aeX x12.2.1.k ((aq2 l x12.1).value)).bind fun r20 =>
 some (({ x12.2.1 with m:=r15.2.1,k:=r20.2.1 }:EnvP),x12.2.2.1,x12.2.2.2.1,x12.2.2.2.2.1,())
 else
 some (({ x12.2.1 with m:=r15.2.1 }:EnvP),x12.2.2.1,x12.2.2.2.1,x12.2.2.2.2.1,())
 ):Option (EnvP×(WorkerV MV)×(ClientV MV)×(Int×List Int×Int×Int×Int×Int×Unit)×Unit))
noncomputable def aoO (l:List EntV) (self14:auz→Option (auz)) (x12:auz):Option (auz) :=
 if x12.1<((l.length:Nat):Int) then
 if 0≤x12.1∧x12.1<((l.length:Nat):Int) then
 (aaS x12.2.1.m).bind fun r15 =>
 (ahA l x12 r15).bind fun z21 =>
 aeK r15.1.1 z21.1 z21.2.2.2.1 (fun e g =>self14 (wi (x12.1+1),e,z21.2.1,z21.2.2.1,g,()))
 else none
 else
 some (x12.1,x12.2.1,x12.2.2.1,x12.2.2.2.1,x12.2.2.2.2.1,())
abbrev auy:=Int×EnvP×(WorkerV MV)×(WorkerV MV)×(ClientV MV)×(Int×List Int×Int×Int×Int×Int×Unit)×Unit
noncomputable def ahz (l:List EntV) (x13:auy) (r16:(Int×Unit)×(MemV×Unit)) :=
 ((
 if ((aq2 l x13.1).kind)=0 then
 (acp (aq2 l x13.1) 3).bind fun r17 =>
 if r17.1.1=((2:Nat):Int) then
 (aao x13.2.2.2.2.1 ({ x13.2.1 with m:=r16.2.1 }:EnvP)).bind fun r18 =>
 some (r18.2.2.1,x13.2.2.1,x13.2.2.2.1,r18.2.1,x13.2.2.2.2.2.1,())
 else
 if r17.1.1=((1:Nat):Int) then
 (aah x13.2.2.2.1 ({ x13.2.1 with m:=r16.2.1 }:EnvP)).bind fun r19 =>
 some (r19.2.2.1,x13.2.2.1,r19.2.1,x13.2.2.2.2.1,x13.2.2.2.2.2.1,())
 else
 if r17.1.1=((0:Nat):Int) then
 (aah x13.2.2.1 ({ x13.2.1 with m:=r16.2.1 }:EnvP)).bind fun r20 =>
 some (r20.2.2.1,r20.2.1,x13.2.2.2.1,x13.2.2.2.2.1,x13.2.2.2.2.2.1,())
 else
 none
 else
 if ((aq2 l x13.1).kind)=1 then
 (ael x13.2.1.k).bind fun r21 =>
 some (({ x13.2.1 with m:=r16.2.1,k:=r21.2.1 }:EnvP),x13.2.2.1,x13.2.2.2.1,x13.2.2.2.2.1,x13.2.2.2.2.2.1,())
 else
 if ((aq2 l x13.1).kind)=2 then
 (aeX x13.2.1.k ((aq2 l x13.1).value)).bind fun r22 =>
 some (({ x13.2.1 with m:=r16.2.1,k:=r22.2.1 }:EnvP),x13.2.2.1,x13.2.2.2.1,x13.2.2.2.2.1,x13.2.2.2.2.2.1,())
 else
 some (({ x13.2.1 with m:=r16.2.1 }:EnvP),x13.2.2.1,x13.2.2.2.1,x13.2.2.2.2.1,x13.2.2.2.2.2.1,())
 ):Option (EnvP×(WorkerV MV)×(WorkerV MV)×(ClientV MV)×(Int×List Int×Int×Int×Int×Int×Unit)×Unit))
noncomputable def aoN (l:List EntV) (self15:auy→Option (auy)) (x13:auy):Option (auy) :=
 if x13.1<((l.length:Nat):Int) then
 if 0≤x13.1∧x13.1<((l.length:Nat):Int) then
 (aaS x13.2.1.m).bind fun r16 =>
 (ahz l x13 r16).bind fun z23 =>
 aeK r16.1.1 z23.1 z23.2.2.2.2.1 (fun e g =>self15 (wi (x13.1+1),e,z23.2.1,z23.2.2.1,z23.2.2.2.1,g,()))
 else none
 else
 some (x13.1,x13.2.1,x13.2.2.1,x13.2.2.2.1,x13.2.2.2.2.1,x13.2.2.2.2.2.1,())
abbrev aux:=Int×EnvP×(WorkerV MV)×(WorkerV MV)×(WorkerV MV)×(ClientV MV)×(Int×List Int×Int×Int×Int×Int×Unit)×Unit
noncomputable def ahy (l:List EntV) (x14:aux) (r17:(Int×Unit)×(MemV×Unit)) :=
 ((
 if ((aq2 l x14.1).kind)=0 then
 (acp (aq2 l x14.1) 4).bind fun r18 =>
 if r18.1.1=((3:Nat):Int) then
 (aao x14.2.2.2.2.2.1 ({ x14.2.1 with m:=r17.2.1 }:EnvP)).bind fun r19 =>
 some (r19.2.2.1,x14.2.2.1,x14.2.2.2.1,x14.2.2.2.2.1,r19.2.1,x14.2.2.2.2.2.2.1,())
 else
 if r18.1.1=((2:Nat):Int) then
 (aah x14.2.2.2.2.1 ({ x14.2.1 with m:=r17.2.1 }:EnvP)).bind fun r20 =>
 some (r20.2.2.1,x14.2.2.1,x14.2.2.2.1,r20.2.1,x14.2.2.2.2.2.1,x14.2.2.2.2.2.2.1,())
 else
 if r18.1.1=((1:Nat):Int) then
 (aah x14.2.2.2.1 ({ x14.2.1 with m:=r17.2.1 }:EnvP)).bind fun r21 =>
 some (r21.2.2.1,x14.2.2.1,r21.2.1,x14.2.2.2.2.1,x14.2.2.2.2.2.1,x14.2.2.2.2.2.2.1,())
 else
 if r18.1.1=((0:Nat):Int) then
 (aah x14.2.2.1 ({ x14.2.1 with m:=r17.2.1 }:EnvP)).bind fun r22 =>
 some (r22.2.2.1,r22.2.1,x14.2.2.2.1,x14.2.2.2.2.1,x14.2.2.2.2.2.1,x14.2.2.2.2.2.2.1,())
 else
 none
 else
 if ((aq2 l x14.1).kind)=1 then
 (ael x14.2.1.k).bind fun r23 =>
 some (({ x14.2.1 with m:=r17.2.1,k:=r23.2.1 }:EnvP),x14.2.2.1,x14.2.2.2.1,x14.2.2.2.2.1,x14.2.2.2.2.2.1,x14.2.2.2.2.2.2.1,())
 else
 if ((aq2 l x14.1).kind)=2 then
 (aeX x14.2.1.k ((aq2 l x14.1).value)).bind fun r24 =>
 some (({ x14.2.1 with m:=r17.2.1,k:=r24.2.1 }:EnvP),x14.2.2.1,x14.2.2.2.1,x14.2.2.2.2.1,x14.2.2.2.2.2.1,x14.2.2.2.2.2.2.1,())
 else
 some (({ x14.2.1 with m:=r17.2.1 }:EnvP),x14.2.2.1,x14.2.2.2.1,x14.2.2.2.2.1,x14.2.2.2.2.2.1,x14.2.2.2.2.2.2.1,())
 ):Option (EnvP×(WorkerV MV)×(WorkerV MV)×(WorkerV MV)×(ClientV MV)×(Int×List Int×Int×Int×Int×Int×Unit)×Unit))
noncomputable def aoM (l:List EntV) (self16:aux→Option (aux)) (x14:aux):Option (aux) :=
 if x14.1<((l.length:Nat):Int) then
 if 0≤x14.1∧x14.1<((l.length:Nat):Int) then
 (aaS x14.2.1.m).bind fun r17 =>
 (ahy l x14 r17).bind fun z25 =>
 aeK r17.1.1 z25.1 z25.2.2.2.2.2.1 (fun e g =>self16 (wi (x14.1+1),e,z25.2.1,z25.2.2.1,z25.2.2.2.1,z25.2.2.2.2.1,g,()))
 else none
 else
 some (x14.1,x14.2.1,x14.2.2.1,x14.2.2.2.1,x14.2.2.2.2.1,x14.2.2.2.2.2.1,x14.2.2.2.2.2.2.1,())
abbrev auw:=Int×EnvP×(WorkerV MV)×(WorkerV MV)×(WorkerV MV)×(WorkerV MV)×(ClientV MV)×(Int×List Int×Int×Int×Int×Int×Unit)×Unit
noncomputable def ahx (l:List EntV) (x15:auw) (r18:(Int×Unit)×(MemV×Unit)) :=
 ((
 if ((aq2 l x15.1).kind)=0 then
 (acp (aq2 l x15.1) 5).bind fun r19 =>
 if r19.1.1=((4:Nat):Int) then
 (aao x15.2.2.2.2.2.2.1 ({ x15.2.1 with m:=r18.2.1 }:EnvP)).bind fun r20 =>
 some (r20.2.2.1,x15.2.2.1,x15.2.2.2.1,x15.2.2.2.2.1,x15.2.2.2.2.2.1,r20.2.1,x15.2.2.2.2.2.2.2.1,())
 else
 if r19.1.1=((3:Nat):Int) then
 (aah x15.2.2.2.2.2.1 ({ x15.2.1 with m:=r18.2.1 }:EnvP)).bind fun r21 =>
 some (r21.2.2.1,x15.2.2.1,x15.2.2.2.1,x15.2.2.2.2.1,r21.2.1,x15.2.2.2.2.2.2.1,x15.2.2.2.2.2.2.2.1,())
 else
 if r19.1.1=((2:Nat):Int) then
 (aah x15.2.2.2.2.1 ({ x15.2.1 with m:=r18.2.1 }:EnvP)).bind fun r22 =>
 some (r22.2.2.1,x15.2.2.1,x15.2.2.2.1,r22.2.1,x15.2.2.2.2.2.1,x15.2.2.2.2.2.2.1,x15.2.2.2.2.2.2.2.1,())
 else
 if r19.1.1=((1:Nat):Int) then
 (aah x15.2.2.2.1 ({ x15.2.1 with m:=r18.2.1 }:EnvP)).bind fun r23 =>
 some (r23.2.2.1,x15.2.2.1,r23.2.1,x15.2.2.2.2.1,x15.2.2.2.2.2.1,x15.2.2.2.2.2.2.1,x15.2.2.2.2.2.2.2.1,())
 else
 if r19.1.1=((0:Nat):Int) then
 (aah x15.2.2.1 ({ x15.2.1 with m:=r18.2.1 }:EnvP)).bind fun r24 =>
 some (r24.2.2.1,r24.2.1,x15.2.2.2.1,x15.2.2.2.2.1,x15.2.2.2.2.2.1,x15.2.2.2.2.2.2.1,x15.2.2.2.2.2.2.2.1,())
 else
 none
 else
 if ((aq2 l x15.1).kind)=1 then
 (ael x15.2.1.k).bind fun r25 =>
 some (({ x15.2.1 with m:=r18.2.1,k:=r25.2.1 }:EnvP),x15.2.2.1,x15.2.2.2.1,x15.2.2.2.2.1,x15.2.2.2.2.2.1,x15.2.2.2.2.2.2.1,x15.2.2.2.2.2.2.2.1,())
 else
 if ((aq2 l x15.1).kind)=2 then
 (aeX x15.2.1.k ((aq2 l x15.1).value)).bind fun r26 =>
 some (({ x15.2.1 with m:=r18.2.1,k:=r26.2.1 }:EnvP),x15.2.2.1,x15.2.2.2.1,x15.2.2.2.2.1,x15.2.2.2.2.2.1,x15.2.2.2.2.2.2.1,x15.2.2.2.2.2.2.2.1,())
 else
 some (({ x15.2.1 with m:=r18.2.1 }:EnvP),x15.2.2.1,x15.2.2.2.1,x15.2.2.2.2.1,x15.2.2.2.2.2.1,x15.2.2.2.2.2.2.1,x15.2.2.2.2.2.2.2.1,())
 ):Option (EnvP×(WorkerV MV)×(WorkerV MV)×(WorkerV MV)×(WorkerV MV)×(ClientV MV)×(Int×List Int×Int×Int×Int×Int×Unit)×Unit))
noncomputable def aoL (l:List EntV) (self17:auw→Option (auw)) (x15:auw):Option (auw) :=
 if x15.1<((l.length:Nat):Int) then
 if 0≤x15.1∧x15.1<((l.length:Nat):Int) then
 (aaS x15.2.1.m).bind fun r18 =>
 (ahx l x15 r18).bind fun z27 =>
 aeK r18.1.1 z27.1 z27.2.2.2.2.2.2.1 (fun e g =>self17 (wi (x15.1+1),e,z27.2.1,z27.2.2.1,z27.2.2.2.1,z27.2.2.2.2.1,z27.2.2.2.2.2.1,g,()))
 else none
 else
 some (x15.1,x15.2.1,x15.2.2.1,x15.2.2.2.1,x15.2.2.2.2.1,x15.2.2.2.2.2.1,x15.2.2.2.2.2.2.1,x15.2.2.2.2.2.2.2.1,())
structure EG (N:Nat) (e:EnvP) (g:ah9):Prop where
 n:g.1=(N:Int)
 l:g.2.1.length=e.evs.length
 r:∀ s∈g.2.1,0≤s∧s<(N:Int)
 s:g.2.1.Pairwise (·≤·)
theorem aoX {N:Nat} {env:EnvP} {eng:ah9} (F:(EnvP×ah9×Unit→Option (EnvP×ah9×Unit))→EnvP×ah9×Unit→Option (EnvP×ah9×Unit))
  (hF:∀ self x,F self x=if ((x.2.1.2.1.length:Nat):Int)<((x.1.evs.length:Nat):Int) then
    if (((x.2.1.2.1.length+([x.2.1.1]:List Int).length:Nat)):Int)<1000000000000 then self (x.1,(x.2.1.1,x.2.1.2.1++([x.2.1.1]),x.2.1.2.2.1,x.2.1.2.2.2.1,x.2.1.2.2.2.2.1,x.2.1.2.2.2.2.2.1,()),()) else none
   else some (x.1,(x.2.1.1,x.2.1.2.1,x.2.1.2.2.1,x.2.1.2.2.2.1,x.2.1.2.2.2.2.1,x.2.1.2.2.2.2.2.1,()),()))
  (hn:eng.1=(N:Int)) (h:eng.2.1.length≤env.evs.length) (he:env.evs.length≤999999999) (hr:∀ s∈eng.2.1,0≤s∧s<(N:Int)) (hs:eng.2.1.Pairwise (·≤·)) :
  aaB (lpF F 18446744073709551616 (env,eng,())) fun z =>z.1=env∧z.2.1.1=(N:Int)∧z.2.1.2.1.length=env.evs.length∧(∀ s∈z.2.1.2.1,0≤s∧s<(N:Int)+1)∧z.2.1.2.1.Pairwise (·≤·)∧z.2.1.2.2=eng.2.2:=by
 refine acm (fun x =>x.1=env∧x.2.1.1=(N:Int)∧x.2.1.2.1.length≤env.evs.length∧(∀ s∈x.2.1.2.1,0≤s∧s<(N:Int)+1)∧x.2.1.2.1.Pairwise (·≤·)∧x.2.1.2.2=eng.2.2) (fun x =>env.evs.length-x.2.1.2.1.length) (fun self x hx ih =>?_) _ _ ⟨rfl,hn,h,fun s k =>by have:=hr s k; omega,hs,rfl⟩ (by show env.evs.length-_<_; omega)
 obtain ⟨e,⟨n,st,a,b,c,d,⟨⟩⟩,⟨⟩⟩:=x
 obtain ⟨h1,h2,h3,h4,h5,h6⟩:=hx
 simp only at h1 h2 h3 h4 h5 h6
 subst h1
 subst h2
 rw [hF]
 refine aaB.ite (fun hlt =>?_) fun hge =>.some_ ⟨rfl,rfl,?_,h4,h5,h6⟩
 ·have hlt:((st.length:Nat):Int)<((e.evs.length:Nat):Int):=hlt
  refine aaB.guard (by simp only [List.length_singleton]; omega) fun _ =>?_
  refine ih _ ⟨rfl,rfl,?_,?_,?_,h6⟩ ?_
  ·show (st++[(N:Int)]).length≤_
   rw [List.length_append,List.length_singleton]
   omega
  ·intro s hs
   rcases List.mem_append.1 hs with k | k
   ·exact h4 s k
   ·have k2:s=(N:Int):=List.mem_singleton.1 k
    omega
  ·show (st++[(N:Int)]).Pairwise (·≤·)
   rw [List.pairwise_append]
   exact ⟨h5,by simp,fun x hx y hy =>by rw [List.mem_singleton.1 hy]; have:=h4 x hx; omega⟩
  ·show e.evs.length-(st++[(N:Int)]).length<e.evs.length-st.length
   rw [List.length_append,List.length_singleton]
   omega
 ·have hge:¬ ((st.length:Nat):Int)<((e.evs.length:Nat):Int):=hge
  show st.length=e.evs.length
  have h3:st.length≤e.evs.length:=h3
  omega
theorem as3 {σ:Type} {N:Nat} {c0:Int} {env e0:EnvP} {eng:ah9} {self:EnvP→ah9→Option σ} {P:σ→Prop}
  (hg:EG N e0 eng) (hev:∃ l,env.evs=e0.evs++l) (he:env.evs.length≤999999999) (hN:N≤1000000)
  (hs:∀ eng':ah9,EG (N+1) env (wi (eng'.1+1),eng'.2)→(eng'.2.2.1,eng'.2.2.2.1)=(if c0<env.m.count then (env.m.last.kind,env.m.last.cell) else (0,0))→aaB (self env (wi (eng'.1+1),eng'.2.1,eng'.2.2.1,eng'.2.2.2.1,eng'.2.2.2.2.1,eng'.2.2.2.2.2.1,())) P):aaB (aeK c0 env eng self) P:=by
 obtain ⟨l,hl⟩:=hev
 have hle:eng.2.1.length≤env.evs.length:=by rw [hg.l,hl,List.length_append]; omega
 have fin:∀ (p:Int×Int×Int×Int×Unit) (z:EnvP×ah9×Unit),(p.1,p.2.1)=(if c0<env.m.count then (env.m.last.kind,env.m.last.cell) else (0,0))→(z.1=env∧z.2.1.1=(N:Int)∧z.2.1.2.1.length=env.evs.length∧(∀ s∈z.2.1.2.1,0≤s∧s<(N:Int)+1)∧z.2.1.2.1.Pairwise (·≤·)∧z.2.1.2.2=p)→aaB (self z.1 (wi (z.2.1.1+1),z.2.1.2.1,z.2.1.2.2.1,z.2.1.2.2.2.1,z.2.1.2.2.2.2.1,z.2.1.2.2.2.2.2.1,())) P:=fun p z hp hz =>by
  obtain ⟨z1,z2,z3,z4,z5,z6⟩:=hz
  rw [z1]
  refine hs z.2.1 ⟨?_,z3,fun s k =>?_,z5⟩ (by rw [z6]; exact hp)
  ·show wi (z.2.1.1+1)=_
   rw [z2,aaM (aas (by omega))]; omega
  ·have:=z4 s k; omega
 unfold aeK
 rw [afs,bnd]
 refine aaB.ite (fun hlt =>?_) fun hlt =>?_
 ·rw [aFU,bnd]
  exact aaB.bind (aoX _ (fun _ _ =>rfl) hg.n (by exact hle) (by exact he) hg.r hg.s) fun z =>fin _ z (if_pos hlt).symm
 ·exact aaB.bind (aoX _ (fun _ _ =>rfl) hg.n (by exact hle) (by exact he) hg.r hg.s) fun z =>fin _ z (if_neg hlt).symm
theorem av7 {σ:Type} {N:Nat} {c0:Int} {env e0:EnvP} {eng:ah9} {self:EnvP→ah9→Option σ} {P:σ→Prop}
  (hg:EG N e0 eng) (hev:∃ l,env.evs=e0.evs++l) (he:env.evs.length≤999999999) (hN:N≤1000000)
  (hs:∀ eng':ah9,EG (N+1) env (wi (eng'.1+1),eng'.2)→aaB (self env (wi (eng'.1+1),eng'.2.1,eng'.2.2.1,eng'.2.2.2.1,eng'.2.2.2.2.1,eng'.2.2.2.2.2.1,())) P):aaB (aeK c0 env eng self) P:=as3 hg hev he hN fun g h _ =>hs g h
theorem aHv {b:List Int} (hb:b.length≤1000000):aaB (aol b) fun o =>o.1.1.length≤65536:=by
 unfold aol
 refine aaB.bind (P:=fun z =>z.1.length≤65536) (acm (fun x =>0≤x.2.1∧x.2.1≤(b.length:Int)+2∧x.1.length≤65536) (fun x =>((b.length:Int)+2-x.2.1).toNat) (fun self x ⟨q0,q1,q2⟩ ih =>?_) _ _ ⟨Int.le_refl 0,by show (0:Int)≤(b.length:Int)+2; omega,Nat.zero_le _⟩ (by show ((b.length:Int)+2-0).toNat<_; omega)) fun z hz =>.some_ hz
 have e1:wi (x.2.1+1)=x.2.1+1:=aaM (aas (by omega))
 have e2:wi (x.2.1+2)=x.2.1+2:=aaM (aas (by omega))
 rw [e1,e2]
 refine aaB.ite (fun h1 =>aaB.ite (fun h2 =>.guard (by omega) fun _ =>.guard (by omega) fun _ =>.guard rfl fun _ =>.guard rfl fun _ =>?_) fun _ =>.some_ q2) fun _ =>.some_ q2
 have nx:∀ u:EntV,aaB (self (x.1++[u],x.2.1+2,())) fun z =>z.1.length≤65536:=fun u =>ih _ ⟨by show 0≤x.2.1+2; omega,by show x.2.1+2≤(b.length:Int)+2; omega,by simp; omega⟩ (by show ((b.length:Int)+2-(x.2.1+2)).toNat<((b.length:Int)+2-x.2.1).toNat; omega)
 refine aaB.ite (fun _ =>.guard (by simp; omega) fun _ =>nx _) fun _ =>aaB.ite (fun _ =>.guard (by simp; omega) fun _ =>nx _) fun _ =>.guard (by simp; omega) fun _ =>nx _
theorem ajR {b:List Int} {n:Int} (hb:b.length≤1000000) (hn:0≤n):aaB (akP b n) fun o =>o.1.1.length≤n.toNat:=by
 unfold akP
 refine (aHv hb).bind fun r hr =>aaB.ite (fun h =>.guard (by omega) fun _ =>.some_ (by show (r.1.1.take n.toNat).length≤n.toNat; simp; omega)) fun h =>.some_ (by show r.1.1.length≤n.toNat; omega)
end
end Go.Proofs.YtidhehdanppcoaaGreat
