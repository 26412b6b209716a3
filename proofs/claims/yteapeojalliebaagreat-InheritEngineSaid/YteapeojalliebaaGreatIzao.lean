/- Run,a worker,the client: what a step does with levels,Next and the events; who publishes a task. A worker and the client: what a step does with levels,Next and the events. Who has a task,and what its cells say: what holds between steps,and how a step keeps it. No program occurs here. What a step leaves of the tasks' states: the machines that change none. Who has a task,in the program's memory: single changes of the cells,the records and the events. Who has a task,in the program's memory: what each line that touches a task does. -/
import Derived.Test.YteapeojalliebaaGreatIzan
set_option linter.all false
namespace Go.Proofs.YteapeojalliebaaGreat
section
open Go Go.RowKit
set_option maxRecDepth 100000
variable [Tb]
structure Al (c:Cfg) (e e':EnvP):Prop where
 i:MI c e'
 lv:∀ t,Lv c e' t=Lv c e t
 nx:e'.gt 0=wu (e.gt 0+1)∨e'.gt 0=e.gt 0
 ev:∃ l,e'.evs=e.evs++l∧∀ x∈l,Pl c x
structure Al1 (c:Cfg) (e e':EnvP):Prop where
 a:Al c e e'
 n:e'.gt 0=wu (e.gt 0+1)
structure W0 (c:Cfg) (e e':EnvP) (t v:Int):Prop where
 i:MI c e'
 now:Lv c e' t=v
 ot:∀ u,u≠t→Lv c e' u=Lv c e u
 nx:e'.gt 0=e.gt 0
 ev:e'.evs=e.evs
structure An (c:Cfg) (e e':EnvP) (t v:Int):Prop where
 i:MI c e'
 lv:∀ t,Lv c e' t=Lv c e t
 nx:e'.gt 0=e.gt 0
 ev:∃ l k w o,(k=1∨k=3)∧(∀ x∈l,Pl c x)∧e'.evs=e.evs++l++[⟨k,w,t,o,v⟩]
abbrev ak8:=Option (Int×Int×Bool)
inductive Tr (c:Cfg) (e e':EnvP):ak8→ak8→Prop
 | same (p:ak8) (h:Rz c e e'):Tr c e e' p p
 | drop (p:ak8) (h:Rz c e e'):Tr c e e' p none
 | al (h:Al c e e'):Tr c e e' none none
 | al1 (v:Int) (h:Al1 c e e') (ht:TOk c (wi (e.gt 0))) (hv:0≤v∧v<c.levels):Tr c e e' none (some (wi (e.gt 0),v,false))
 | w0 (t v:Int) (h:W0 c e e' t v):Tr c e e' (some (t,v,false)) (some (t,v,true))
 | an (t v:Int) (h:An c e e' t v):Tr c e e' (some (t,v,true)) none
section
variable {c:Cfg} {e e':EnvP} {w:Int}
theorem Tr.i {p q:ak8} (h:Tr c e e' p q):MI c e':=by
 cases h with
 | same _ h =>exact h.i
 | drop _ h =>exact h.i
 | al h =>exact h.i
 | al1 _ h =>exact h.a.i
 | w0 _ _ h =>exact h.i
 | an _ _ h =>exact h.i
theorem aEn (h:MI c e):Al c e (abr e)∧(0<(e.m.cells.length:Int)→Al1 c e (abr e)):=by
 have hv:CellOk c 0 (wu (e.gt 0+1)):=⟨aif _,fun k =>by rw [ae4] at k; omega,fun k =>by rw [ae4] at k; omega,fun k =>by rw [ae4] at k; omega⟩
 have hl:∀ t,Lv c (abr e) t=Lv c e t:=fun t =>by
  show (e.pt 6 0 (wu (e.gt 0+1))).gt _=e.gt _
  rw [aio,if_neg]
  intro h'
  have h1:=agQ h.d (t:=t)
  rw [h'.1,ae4] at h1
  omega
 have hn:(abr e).gt 0=if (0:Int)=0∧0≤(0:Int)∧0<(e.m.cells.length:Int) then wu (e.gt 0+1) else e.gt 0:=aio
 have ha:Al c e (abr e):=⟨h.pt hv,hl,by rw [hn]; split; exact .inl rfl; exact .inr rfl,[],by show e.evs=_; simp,fun x hx =>by cases hx⟩
 exact ⟨ha,fun hp =>⟨ha,by rw [hn,if_pos ⟨rfl,Int.le_refl 0,hp⟩]⟩⟩
theorem Al.em {k w o l t:Int} (h:Al c e e') (ht:0≤t∧t<c.tasks) (hk:k≠1∧k≠3∧k≠11∧k≠12):Al c e (e'.em k w t o l):=by
 obtain ⟨m,hm,hp⟩:=h.ev
 refine ⟨⟨h.i.d,h.i.l,h.i.cc,h.i.ok⟩,h.lv,h.nx,m++[⟨k,w,t,o,l⟩],?_,fun x hx =>?_⟩
 ·show e'.evs++[_]=_
  rw [hm,List.append_assoc]
 ·rcases List.mem_append.1 hx with hx | hx
  ·exact hp x hx
  ·rw [List.mem_singleton.1 hx]
   exact ⟨ht,hk⟩
theorem Al.pr {t:Int} {r:RecP} (h:Al c e e'):Al c e (e'.pr t r):=⟨⟨h.i.d,h.i.l,h.i.cc,h.i.ok⟩,h.lv,h.nx,h.ev⟩
theorem Al1.pr {t:Int} {r:RecP} (h:Al1 c e e'):Al1 c e (e'.pr t r):=⟨h.a.pr,h.n⟩
theorem aH9 (h:MI c e) {t v:Int} (ht:TOk c t) (hv:0≤v∧v<c.levels) (hr:aaW (aap c) t<(e.m.cells.length:Int)):W0 c e (e.pt 2 (aaW (aap c) t) v) t v:=by
 have e1:0≤aaW (aap c) t:=by
  have:=agQ h.d (t:=t)
  have e2:=adt h.d (t:=t) (f:=1) (by omega)
  have e3:=aeR h.d
  have e4:=h.d.h
  show 0≤ac0 (aap c) t 1
  have ht:0≤t∧t<c.tasks:=ht
  rw [e2,if_pos ht]
  omega
 refine ⟨h.pt (aye h.d hv),?_,fun u hu =>?_,?_,rfl⟩
 ·show (e.pt _ _ _).gt _=v
  rw [aio,if_pos ⟨rfl,e1,hr⟩]
 ·show (e.pt _ _ _).gt _=e.gt _
  rw [aio,if_neg (fun h' =>hu (ave h.d ht h'.1))]
 ·rw [aio,if_neg]
  intro h'
  have h1:=agQ h.d (t:=t)
  rw [← h'.1,ae4] at h1
  omega
theorem Qt.an {t v k w o:Int} (h:Qt c e e') (hk:k=1∨k=3):An c e (e'.em k w t o v) t v:=by
 obtain ⟨m,hm,hp⟩:=h.ev
 exact ⟨⟨h.i.d,h.i.l,h.i.cc,h.i.ok⟩,h.lv,h.nx,m,k,w,o,hk,hp,by show e'.evs++[_]=_; rw [hm]⟩
def aHC (c:Cfg) (r:RunS):Prop:=match r.c with
 | .s2 _ =>TOk c r.id∧(0≤r.level∧r.level<c.levels)
 | .s3 s =>TOk c r.id∧ajH s
 | .s5 =>TOk c r.id
 | .j5 s =>ao8 c r.level s
 | .f4 s =>TOk c r.waiter∧axf s
 | .f6 =>TOk c r.waiter
 | _ =>True
def aEL (r:RunS):ak8:=match r.c with
 | .s2 .l1 =>some (r.id,r.level,false)
 | .s2 _ =>some (r.id,r.level,true)
 | _ =>none
def aEr (c:Cfg) (e:EnvP) (p:ak8) (o:Rs RunS×EnvP):Prop:=Tr c e o.2 p (match o.1 with
 | .go r =>aEL r
 | .fin _ _ =>none)∧o.1.Q (aHC c) (fun _ _ =>True)
theorem aEr.ite {p:ak8} {P:Prop} [Decidable P] {a b:Rs RunS×EnvP} (h1:P→aEr c e p a) (h2:¬ P→aEr c e p b):aEr c e p (if P then a else b):=by
 split
 ·exact h1 ‹_›
 ·exact h2 ‹_›
theorem arb {r:RunS} (h:Rz c e e'):aEr c e none (aha r e'):=by
 unfold aha aEr
 by_cases h1:r.stack.length=1
 ·rw [if_pos h1]; exact ⟨.same _ h,trivial⟩
 ·rw [if_neg h1]; exact ⟨.same _ h,trivial⟩
theorem aIC (h:MI c e) {x:RecP} {i:Int} (hi:¬ (i<0∨((e.prog x).length:Int)≤i)) (ho:(acl (e.prog x) i).op=1):0≤(acl (e.prog x) i).b∧(acl (e.prog x) i).b<c.levels:=by
 have hm:acl (e.prog x) i∈e.prog x:=ar2 (α:=Ins) (d:=(dfR 3:TR 3)) (by omega)
 have hp:e.prog x∈c.progs∨e.prog x=[]:=by
  unfold EnvP.prog
  rw [h.cc]
  split
  ·exact .inr rfl
  ·exact .inl (ar2 (by omega))
 rcases hp with hp | hp
 ·rcases h.d.ps _ hp _ hm with k | k | k
  ·omega
  ·exact k.2.2.2
  ·omega
 ·rw [hp] at hm; cases hm
theorem aIp {t:Int} {r:RunS} (h:MI c e) (hl:(e.m.cells.length:Int)=aaL c) (ht:TOk c t) (hc:r.c=.next):aEr c e none (arW w e r t (e.rc t) (e.prog (e.rc t))):=by
 have hp:aEL r=none:=by unfold aEL; rw [hc]
 have hg:aHC c r:=by unfold aHC; rw [hc]; trivial
 have hs:∀ {e':EnvP},Rz c e e'→aEr c e none (.go r,e'):=fun h =>⟨by show Tr c e _ none (aEL r); rw [hp]; exact .same _ h,hg⟩
 have h0:0<(e.m.cells.length:Int):=by
  have:=aeR h.d
  have h4:=h.d.h
  have h5:=h.d.t
  rw [hl]; unfold aaL; omega
 unfold arW
 rw [h.l]
 refine .ite (fun _ =>hs (.inl (Qt.fr h (atC h.d) (by omega)).pr)) fun _ =>?_
 refine .ite (fun _ =>⟨.same _ (.inl (.fr h (ahp h.d) (by omega))),trivial⟩) fun hi =>?_
 refine .ite (fun _ =>hs (.inl (Qt.refl h).pr)) fun _ =>?_
 refine .ite (fun ho =>?_) fun _ =>?_
 ·refine .ite (fun hn =>?_) fun hn =>?_
  ·have hn:TOk c (wi (e.gt 0)):=by unfold IsT at hn; rw [h.cc] at hn; exact hn
   have hb:=aIC h hi ho
   exact ⟨.al1 _ (((aEn h).2 h0).pr.pr) hn hb,hn,hb⟩
  ·exact ⟨by show Tr c e _ none (aEL r); rw [hp]; exact .al ((aEn h).1.pr.em ht (by omega)),hg⟩
 ·refine .ite (fun _ =>hs (.inl (Qt.refl h).pr)) fun _ =>?_
  exact ⟨.same _ (.inl (Qt.fr h (atC h.d) (aif _)).pr),trivial⟩
theorem aKG {r:RunS} (h:MI c e) (hl:(e.m.cells.length:Int)=aaL c) (hr:aHC c r):aEr c e (aEL r) (aui w e r):=by
 unfold aui
 refine .ite (fun _ =>⟨.drop _ (.inl (.refl h)),trivial⟩) fun ht =>?_
 replace ht:IsT e (aas r.stack):=Classical.not_not.1 ht
 unfold IsT at ht
 rw [h.cc] at ht
 revert ht
 generalize aas r.stack=t
 intro ht
 obtain ⟨stack,id,child,level,waiter,k⟩:=r
 cases k with
 | next =>exact aIp h hl ht rfl
 | s2 s =>
  obtain ⟨h1,h2⟩:=hr
  have hl2:=h.d.l
  simp only [aeB,afA]
  have hi:¬ ¬ IsT e id:=by unfold IsT; rw [h.cc]; exact fun h =>h h1
  rw [if_neg hi,h.l]
  cases s with
  | l1 =>
   have h2:0≤level∧level<c.levels:=h2
   have e1:wu level=level:=afo (by omega)
   simp only [e1]
   refine ⟨.w0 _ _ (aH9 h h1 h2 ?_),h1,h2⟩
   have e2:=adt h.d (t:=id) (f:=1) (by omega)
   show ac0 (aap c) id 1<_
   have h1:0≤id∧id<c.tasks:=h1
   rw [e2,if_pos h1,hl]
   unfold aaL
   omega
  | l2 =>exact ⟨.same _ (.inl (.fr h (apT h.d) (aif _))),h1,h2⟩
  | l3 =>exact ⟨.an _ _ ((Qt.fr h (ahp h.d) (by omega)).an (.inr rfl)),h1,trivial⟩
 | s3 s =>
  have:=ajh (w:=w) (v:=level) h hr.1 s hr.2
  simp only [aeB]
  revert this
  rcases abL w level id e s with ⟨o,e'⟩
  intro this
  cases o with
  | go s =>exact ⟨.same _ (.inl this.1),hr.1,this.2⟩
  | fin c0 v0 =>
   simp only
   split
   ·exact ⟨.same _ (.inl this.1),hr.1⟩
   ·exact ⟨.same _ (.inl this.1),trivial⟩
 | s4 s =>
  have:=amr (w:=w) (v:=level) h s
  simp only [aeB]
  revert this
  rcases aej w level e s with ⟨o,e'⟩
  intro this
  cases o with
  | go s =>exact ⟨.same _ (.inl this),trivial⟩
  | fin c0 v0 =>exact ⟨.same _ (.inl this),trivial⟩
 | s5 =>
  simp only [aeB]
  split
  ·exact ⟨.same _ (.inl (amh h hr)),trivial⟩
  ·exact ⟨.same _ (.inl (amh h hr)),trivial⟩
 | j2 =>
  simp only [aeB]
  rw [h.l]
  exact ⟨.same _ (.inl (.fr h (ahp h.d) (by omega))),trivial⟩
 | j3 =>
  simp only [aeB]
  rw [h.l]
  exact .ite (fun _ =>⟨.same _ (.inl ((Qt.cas h (atF h.d) (aif _)).em ht (by omega))),trivial⟩) fun _ =>⟨.same _ (.inl (.cas h (atF h.d) (aif _))),trivial⟩
 | j4 =>exact ⟨.same _ (.inl (.lk h)),trivial⟩
 | j5 s =>
  have:=aH7 (w:=w) (v:=level) h s hr
  simp only [aeB]
  revert this
  rcases ae9 w level e s with ⟨o,e'⟩
  intro this
  cases o with
  | go s =>exact ⟨.same _ this.1,this.2⟩
  | fin c0 v0 =>exact arb (this.1.em ht (by omega))
 | j6 =>
  simp only [aeB]
  rw [h.l]
  exact ⟨.same _ (.inl (.fr h (ahp h.d) (by omega))),trivial⟩
 | j7 =>
  simp only [aeB]
  rw [h.l]
  exact ⟨.same _ (.inl ((Qt.fr h (atC h.d) (by omega)).pr.em ht (by omega))),trivial⟩
 | f2 =>
  simp only [aeB]
  rw [h.l]
  exact .ite (fun _ =>arb (.inl ((Qt.cas h (atF h.d) (by omega)).em ht (by omega)))) fun _ =>⟨.same _ (.inl ((Qt.cas h (atF h.d) (by omega)).em ht (by omega))),trivial⟩
 | f3 =>
  simp only [aeB]
  refine .ite (fun hn =>?_) fun _ =>arb (.inl (.lk h))
  unfold IsT at hn
  rw [h.cc] at hn
  exact ⟨.same _ (.inl (.lk h)),hn,trivial⟩
 | f4 s =>
  have:=aHm (w:=w) h hr.1 s hr.2
  simp only [aeB]
  revert this
  rcases ad1 w waiter e s with ⟨o,e'⟩
  intro this
  cases o with
  | go s =>exact ⟨.same _ (.inl this.1),hr.1,this.2⟩
  | fin c0 v0 =>
   simp only
   split
   ·exact ⟨.same _ (.inl this.1),hr.1⟩
   ·exact ⟨.same _ (.inl this.1),trivial⟩
 | f5 v s =>
  have:=amr (w:=w) (v:=v) h s
  simp only [aeB]
  revert this
  rcases aej w v e s with ⟨o,e'⟩
  intro this
  cases o with
  | go s =>exact ⟨.same _ (.inl this),trivial⟩
  | fin c0 v0 =>exact arb (.inl this)
 | f6 =>
  simp only [aeB]
  exact .ite (fun _ =>⟨.same _ (.inl (amh h hr)),trivial⟩) fun _ =>arb (.inl (amh h hr))
end
section
variable {c:Cfg} {e e':EnvP} {w:Int}
def avU (c:Cfg) (k:WorkS):Prop:=match k.c with
 | .t1 t s =>TOk c t∧arO c s
 | .t2 s =>aCd c s
 | .t3 s =>av0 c s
 | .t5 s =>axd c s
 | .t6 =>TOk c k.x
 | .t7 s =>aHC c s
 | _ =>True
def aHH (k:WorkS):ak8:=match k.c with
 | .t7 s =>aEL s
 | _ =>none
def aud (c:Cfg) (e:EnvP) (p:ak8) (o:WorkS×EnvP):Prop:=Tr c e o.2 p (aHH o.1)∧avU c o.1
theorem aud.ite {p:ak8} {P:Prop} [Decidable P] {a b:WorkS×EnvP} (h1:P→aud c e p a) (h2:¬ P→aud c e p b):aud c e p (if P then a else b):=by
 split
 ·exact h1 ‹_›
 ·exact h2 ‹_›
theorem aud.ite1 {p:ak8} {P:Prop} [Decidable P] {a b:WorkS} {e':EnvP} (h1:P→aud c e p (a,e')) (h2:¬ P→aud c e p (b,e')):aud c e p (if P then a else b,e'):=by
 split
 ·exact h1 ‹_›
 ·exact h2 ‹_›
theorem aGE {a n:Int} (hn:1≤n∧n≤1000):0≤atp a n∧atp a n<n:=by
 have h1:Int.tmod a n<n ∧ -n<Int.tmod a n:=by
  constructor
  ·exact Int.tmod_lt_of_pos _ (by omega)
  ·have h2:Int.tmod (-a) n<n:=Int.tmod_lt_of_pos _ (by omega)
   rw [Int.neg_tmod] at h2
   omega
 unfold atp
 rw [if_neg (by omega)]
 split
 ·rw [aaC (aai (by omega))]; omega
 ·omega
theorem av7 (h:MI c e) {k:WorkS} (hk:avU c k):avU c { k with c:=abU w e k }∧aHH { k with c:=abU w e k }=aHH k:=by
 obtain ⟨a,b,d,x,g⟩:=k
 have ht:=h.d.t
 cases g with
 | top =>
  unfold abU
  rw [h.cc]
  simp only
  split
  ·exact ⟨trivial,rfl⟩
  ·exact ⟨⟨aGE (by omega),trivial⟩,rfl⟩
 | _ =>exact ⟨hk,rfl⟩
theorem aH2 {k:WorkS} (h:MI c e) (hl:(e.m.cells.length:Int)=aaL c) (hk:avU c k):aud c e (aHH k) (acH w e k):=by
 have hB:=av7 (w:=w) h hk
 unfold acH
 revert hB
 generalize abU w e k=kc
 intro ⟨h1,h2⟩
 rw [← h2]
 cases kc with
 | top =>exact ⟨by rw [h2]; exact .same _ (.inl (.refl h)),hk⟩
 | t1 t s =>
  have:=aFw (w:=w) h h1.1 s h1.2
  simp only
  revert this
  rcases aa4 w t e s with ⟨o,e'⟩
  intro this
  cases o with
  | go s =>exact ⟨.same _ this.1,h1.1,this.2⟩
  | fin c0 v0 =>exact ⟨.same _ this.1,trivial⟩
 | t2 s =>
  have:=aEy (w:=w) h s h1
  simp only
  revert this
  rcases alA w e s with ⟨o,e'⟩
  intro this
  cases o with
  | go s =>exact ⟨.same _ (.inl this.1),this.2⟩
  | fin c0 v0 =>exact .ite1 (fun hc =>⟨.same none (.inl this.1),trivial⟩) fun _ =>⟨.same none (.inl this.1),fun h =>(by cases h),trivial⟩
 | t3 s =>
  have:=aBB (w:=w) h s h1
  simp only
  revert this
  rcases abT w e s with ⟨o,e'⟩
  intro this
  cases o with
  | go s =>exact ⟨.same _ (.inl this.1),this.2⟩
  | fin c0 v0 =>
   refine .ite1 (fun hc =>⟨.same none (.inl this.1),this.2 hc⟩) fun _ =>.ite1 (fun _ =>⟨.same none (.inl this.1),trivial⟩) fun _ =>?_
   unfold ay5
   split
   ·exact ⟨.same none (.inl this.1),trivial⟩
   ·exact ⟨.same none (.inl this.1),trivial⟩
 | t4 s =>
  have:=aAj (w:=w) h s
  simp only
  revert this
  rcases akn w e s with ⟨o,e'⟩
  intro this
  cases o with
  | go s =>exact ⟨.same _ (.inl this),trivial⟩
  | fin c0 v0 =>exact .ite1 (fun hc =>⟨.same none (.inl this),trivial⟩) fun _ =>⟨.same none (.inl this),trivial⟩
 | t5 s =>
  have:=azF (w:=k.victim) (v:=k.level) h s h1
  simp only
  rw [h.l]
  revert this
  rcases aiA (aaz (aap c) k.victim k.level) e s with ⟨o,e'⟩
  intro this
  cases o with
  | go s =>exact ⟨.same _ (.inl this.1),this.2⟩
  | fin c0 v0 =>
   refine .ite (fun hc =>⟨.same none (.inl (this.1.em (this.2 hc) (by omega))),this.2 hc⟩) fun _ =>.ite (fun _ =>⟨.same none (.inl this.1),trivial⟩) fun _ =>⟨.same none (.inl this.1),trivial⟩
 | t6 =>
  have h1:TOk c k.x:=h1
  exact .ite1 (fun _ =>⟨.same none (.inl (amh h h1)),trivial⟩) fun _ =>⟨.same none (.inl (amh h h1)),trivial⟩
 | t7 s =>
  have:=aKG (w:=w) h hl h1
  simp only
  revert this
  rcases aui w e s with ⟨o,e'⟩
  intro this
  cases o with
  | go s =>exact this
  | fin c0 v0 =>exact ⟨this.1,trivial⟩
 | t8 s =>
  have:=azO (w:=w) h s
  simp only
  revert this
  rcases agD w e s with ⟨o,e'⟩
  intro this
  cases o with
  | go s =>exact ⟨.same _ (.inl this),trivial⟩
  | fin c0 v0 =>exact ⟨.same _ (.inl this),trivial⟩
 | t9 s =>
  have:=awh (w:=k.victim) (v:=k.level) (a:=k.victim) (b:=k.level) h s
  simp only
  rw [h.l]
  revert this
  rcases agE (aaK (aap c) k.victim) k.level (aaz (aap c) k.victim k.level) e s with ⟨o,e'⟩
  intro this
  cases o with
  | go s =>exact ⟨.same _ (.inl this),trivial⟩
  | fin c0 v0 =>exact ⟨.same _ (.inl this),trivial⟩
def azh (c:Cfg) (k:ClieS):Prop:=0≤k.i∧match k.c with
 | .n4 =>TOk c k.id
 | .n5 =>TOk c k.id
 | .n6 =>TOk c k.id
 | .a6 s =>TOk c k.id∧aqb c s
 | _ =>True
def aKa (subs:List Sub) (k:ClieS):ak8:=match k.c with
 | .n4 =>some (k.id,(abH subs k.i).level,false)
 | .n5 =>some (k.id,(abH subs k.i).level,true)
 | .n6 =>some (k.id,(abH subs k.i).level,true)
 | .a6 _ =>some (k.id,(abH subs k.i).level,true)
 | _ =>none
def axh (c:Cfg) (e:EnvP) (p:ak8) (o:Bool×ClieS×EnvP):Prop:=Tr c e o.2.2 p (aKa c.subs o.2.1)∧azh c o.2.1
theorem axh.ite {p:ak8} {P:Prop} [Decidable P] {a b:Bool×ClieS×EnvP} (h1:P→axh c e p a) (h2:¬ P→axh c e p b):axh c e p (if P then a else b):=by
 split
 ·exact h1 ‹_›
 ·exact h2 ‹_›
theorem aBL {k:ClieS} {p:ak8} (hi:0≤k.i∧k.i≤1000) (h:Tr c e e' p none):axh c e p (aBM c.subs k e'):=by
 have e1:wi (k.i+1)=k.i+1:=aaC (aai (by omega))
 exact ⟨h,by show 0≤wi (k.i+1); omega,trivial⟩
theorem aJU {k:ClieS} {me:Int} (h:MI c e) (hl:(e.m.cells.length:Int)=aaL c) (hk:azh c k):axh c e (aKa c.subs k) (anu c.subs me e k):=by
 have hsn:=h.d.sn
 unfold anu
 refine .ite (fun _ =>⟨.same _ (.inl (.refl h)),hk⟩) fun hi =>?_
 obtain ⟨i,id,acc,g⟩:=k
 obtain ⟨h0,h1⟩:=hk
 have h0:0≤i:=h0
 have hi:i<(c.subs.length:Int):=by have hi:¬ (c.subs.length:Int)≤i:=hi; omega
 have hs:(0≤(abH c.subs i).level∧(abH c.subs i).level<c.levels):=(h.d.ss _ (ar2 (α:=Sub) (d:=(dfR 4:TR 4)) ⟨h0,hi⟩)).2.1
 have hz:=TOk.zero h.d
 show axh c e _ (abR c.subs me e ⟨i,id,acc,g⟩ (abH c.subs i))
 cases g with
 | n1 =>
  simp only [abR]
  by_cases hh:e.hit 1 0=true
  ·rw [if_pos hh]; exact ⟨.same none (.inl (aq7 h)),h0,trivial⟩
  ·rw [if_neg hh]; exact ⟨.same none (.inl (aq7 h)),h0,trivial⟩
 | a1 =>
  simp only [abR]
  by_cases hh:e.hit 1 0=true
  ·rw [if_pos hh]; exact ⟨.same none (.inl (aq7 h)),h0,trivial⟩
  ·rw [if_neg hh]; exact ⟨.same none (.inl (aq7 h)),h0,trivial⟩
 | n2 =>
  simp only [abR]
  exact .ite (fun _ =>⟨.same none (.inl ((Qt.lk h).em hz (by omega))),h0,trivial⟩) fun _ =>⟨.same none (.inl (.lk h)),h0,trivial⟩
 | n3 =>
  simp only [abR]
  refine .ite (fun hn =>?_) fun _ =>⟨.al ((aEn h).1.em hz (by omega)),h0,trivial⟩
  have hn:TOk c (wi (e.gt 0)):=by unfold IsT at hn; rw [h.cc] at hn; exact hn
  have hp:0<(e.m.cells.length:Int):=by
   have:=aeR h.d
   have h4:=h.d.h
   have h5:=h.d.t
   rw [hl]; unfold aaL; omega
  exact ⟨.al1 _ ((aEn h).2 hp).pr hn hs,h0,hn⟩
 | n4 =>
  have h1:TOk c id:=h1
  have hl2:=h.d.l
  have e1:wu (abH c.subs i).level=(abH c.subs i).level:=afo (by omega)
  simp only [abR]
  rw [h.l,e1]
  refine ⟨.w0 _ _ (aH9 h h1 hs ?_),h0,h1⟩
  have e2:=adt h.d (t:=id) (f:=1) (by omega)
  show ac0 (aap c) id 1<_
  have h1:0≤id∧id<c.tasks:=h1
  rw [e2,if_pos h1,hl]
  unfold aaL
  omega
 | n5 =>
  simp only [abR]
  rw [h.l]
  exact ⟨.same _ (.inl (.fr h (apT h.d) (aif _))),h0,h1⟩
 | n6 =>
  have h1:TOk c id:=h1
  have:=apR (d:=(abH c.subs i).deadline) h h1 .l1 trivial
  simp only [abR]
  revert this
  rcases acy (abH c.subs i).deadline id e .l1 with ⟨o,e'⟩
  intro this
  cases o with
  | go s =>exact ⟨.same _ (.inl this.1),h0,h1,this.2⟩
  | fin c0 v0 =>exact .ite (fun _ =>⟨.an _ _ (this.1.an (.inl rfl)),h0,trivial⟩) fun _ =>⟨.drop _ (.inl this.1),h0,trivial⟩
 | a6 s =>
  have h2:TOk c id:=h1.1
  have:=apR (d:=(abH c.subs i).deadline) h h2 s h1.2
  simp only [abR]
  revert this
  rcases acy (abH c.subs i).deadline id e s with ⟨o,e'⟩
  intro this
  cases o with
  | go s =>exact ⟨.same _ (.inl this.1),h0,h2,this.2⟩
  | fin c0 v0 =>exact .ite (fun _ =>⟨.an _ _ (this.1.an (.inl rfl)),h0,trivial⟩) fun _ =>⟨.drop _ (.inl this.1),h0,trivial⟩
 | n7 =>
  simp only [abR]
  rw [h.l]
  exact ⟨.same none (.inl (.fr h (ahp h.d) (by omega))),h0,trivial⟩
 | n8 =>
  simp only [abR]
  exact .ite (fun _ =>⟨.same none (.inl (avq h)),h0,trivial⟩) fun _ =>aBL ⟨h0,by show i≤1000; omega⟩ (.same none (.inl (avq h)))
 | n9 =>
  have:=amr (w:=me) (v:=(abH c.subs i).level) h (.l1 0)
  simp only [abR]
  revert this
  rcases aej me (abH c.subs i).level e (.l1 0) with ⟨o,e'⟩
  intro this
  cases o with
  | go s =>exact ⟨.same none (.inl this),h0,trivial⟩
  | fin c0 v0 =>exact aBL ⟨h0,by show i≤1000; omega⟩ (.same none (.inl this))
 | a9 t =>
  have:=amr (w:=me) (v:=(abH c.subs i).level) h t
  simp only [abR]
  revert this
  rcases aej me (abH c.subs i).level e t with ⟨o,e'⟩
  intro this
  cases o with
  | go s =>exact ⟨.same none (.inl this),h0,trivial⟩
  | fin c0 v0 =>exact aBL ⟨h0,by show i≤1000; omega⟩ (.same none (.inl this))
end
theorem MI.ex {c:Cfg} {e:EnvP} (h:MI c e) {k:ClkV}:MI c { e with k:=k }:=⟨h.d,h.l,h.cc,h.ok⟩
theorem asp {c:Cfg} {a:Int}:(anK c).gt a=0:=by
 show (anK c).m.gt a=0
 unfold MemV.gt
 split
 ·rename_i h
  exact List.eq_of_mem_replicate (ar2 (α:=Int) (d:=(dfR 0:TR 0)) h)
 ·rfl
theorem aJb {c:Cfg} (h:DecOk c):MI c (anK c):=by
 refine ⟨h,rfl,rfl,fun a =>?_⟩
 rw [asp]
 have h1:=h.t
 have h2:=h.l
 have h3:=(atu h).2
 exact ⟨Int.le_refl 0,fun _ =>h3,fun _ =>by omega,fun _ =>by omega⟩
end
section
inductive Ts where
 | fresh | alloc (m:Nat) | acc (m:Nat) | ready | run (m:Nat) | bm (m:Nat) | wait (u:Int) | fin (m:Nat) | fg (m:Nat) | done
inductive Ph where
 | n | p (id:Int) | q (id:Int) | j (t u:Int) | b (t u:Int) | r (t:Int) | f (t:Int) | g (t:Int) | h (t x:Int)
def upd {α:Type} (f:Int→α) (a:Int) (v:α) (x:Int):α:=if x=a then v else f x
def ahX {α:Type} (f:Nat→α) (a:Nat) (v:α) (x:Nat):α:=if x=a then v else f x
theorem abk {α:Type} {f:Int→α} {a:Int} {v:α}:upd f a v a=v:=if_pos rfl
theorem abd {α:Type} {f:Int→α} {a x:Int} {v:α} (h:x≠a):upd f a v x=f x:=if_neg h
theorem aay {α:Type} {f:Nat→α} {a:Nat} {v:α}:ahX f a v a=v:=if_pos rfl
theorem abm {α:Type} {f:Nat→α} {a x:Nat} {v:α} (h:x≠a):ahX f a v x=f x:=if_neg h
def Ts.mine:Ts→Option Nat
 | .alloc m =>some m
 | .acc m =>some m
 | .run m =>some m
 | .bm m =>some m
 | .fin m =>some m
 | .fg m =>some m
 | _ =>none
def Ts.over:Ts→Prop
 | .fg _ =>True
 | .done =>True
 | _ =>False
structure Ab where
 T:Int
 N:Int
 S:Int→Int
 J:Int→Int
 wa:Int→Int
 st:Int→Bool
 kn:Int→Nat
 sn:Int→Nat
 fn:Int→Nat
 ts:Int→Ts
 hd:Nat→List Int
 ph:Nat→Ph
def Ab.ok (a:Ab) (t:Int):Prop:=0≤t∧t<a.T
def aJ5 (s:Ts) (S wa J:Int) (st:Bool) (kn fn:Nat):Prop:=match s with
 | .fresh =>S=0∧st=false∧kn=0∧fn=0
 | .alloc _ =>S=0∧st=false∧kn=0∧fn=0
 | .acc _ =>S=0∧st=false∧kn=1∧fn=0
 | .ready =>S=1∧kn=1∧fn=0
 | .run _ =>S=2∧st=true∧kn=1∧fn=0
 | .bm _ =>S=3∧st=true∧kn=1∧fn=0
 | .wait u =>S=3∧st=true∧kn=1∧fn=0∧wa=u
 | .fin _ =>S=4∧st=true∧kn=1∧fn=0
 | .fg _ =>S=4∧st=true∧kn=1∧fn=1∧J≠0
 | .done =>S=4∧st=true∧kn=1∧fn=1∧J≠0
def Cl (N t:Int) (s:Ts) (S wa J:Int) (st:Bool) (kn sn fn:Nat):Prop :=
 (sn=if st=true then 1 else 0)∧(s=.fresh↔N≤t)∧aJ5 s S wa J st kn fn
def Ab.phOk (a:Ab) (m:Nat) (hd:List Int):Ph→Prop
 | .n =>True
 | .p i =>a.ok i∧a.ts i=.alloc m
 | .q i =>a.ok i∧a.ts i=.acc m
 | .j t u =>t∈hd∧a.wa t=u
 | .b t u =>a.ok t∧a.ts t=.bm m∧a.wa t=u
 | .r t =>a.ok t∧a.ts t=.bm m
 | .f t =>a.ok t∧a.ts t=.fin m
 | .g t =>a.ok t∧a.ts t=.fg m∧∀ w,a.ok w→a.J t=w+1→a.ts w=.wait t
 | .h t x =>a.ok t∧a.ts t=.fg m∧a.ok x∧a.ts x=.wait t
structure LA (a:Ab):Prop where
 n0:0≤a.N
 no:∀ t,¬ a.ok t→a.kn t=0∧a.sn t=0∧a.fn t=0
 cl:∀ t,a.ok t→Cl a.N t (a.ts t) (a.S t) (a.wa t) (a.J t) (a.st t) (a.kn t) (a.sn t) (a.fn t)
 hd:∀ m t,t∈a.hd m→a.ok t∧a.ts t=.run m
 nd:∀ m,(a.hd m).Nodup
 ph:∀ m,a.phOk m (a.hd m) (a.ph m)
 j1:∀ u w,a.ok u→a.ok w→¬ (a.ts u).over→a.J u=w+1→a.ts w=.wait u
 jb:∀ u,a.ok u→a.J u≤4294967296
 c4:∀ m t,a.ok t→a.ts t=.fin m→a.ph m=.f t
theorem LA.put {a:Ab} (h:LA a) {m:Nat} {t:Int} (ht:a.ok t) {s:Ts} {S wa:Int} {st:Bool} {kn sn fn:Nat} {l:List Int} {p:Ph}
  (own:∀ m',(a.ts t).mine=some m'→m'=m) (hw:∀ u,a.ts t=.wait u→a.ok u∧a.ts u=.fg m)
  (ho:(a.ts t).over→s.over) (hc:Cl a.N t s S wa (a.J t) st kn sn fn)
  (hl:∀ x∈l,(x=t∧s=.run m)∨(x≠t∧x∈a.hd m)) (hn:l.Nodup)
  (h4:∀ m',s=.fin m'→m'=m∧p=.f t) (h5:∀ x,x≠t→a.ph m≠.f x)
  (hp:Ab.phOk { a with S:=upd a.S t S,wa:=upd a.wa t wa,st:=upd a.st t st,kn:=upd a.kn t kn,sn:=upd a.sn t sn,fn:=upd a.fn t fn,ts:=upd a.ts t s } m l p) :
  LA { a with S:=upd a.S t S,wa:=upd a.wa t wa,st:=upd a.st t st,kn:=upd a.kn t kn,sn:=upd a.sn t sn,fn:=upd a.fn t fn,ts:=upd a.ts t s,hd:=ahX a.hd m l,ph:=ahX a.ph m p } where
 n0:=h.n0
 no x hx:=by
  have hx':x≠t:=fun k =>hx (by rw [k]; exact ht)
  have:=h.no x hx
  simp only [abd hx']
  exact this
 cl x hx:=by
  by_cases hxt:x=t
  ·subst hxt; simp only [abk]; exact hc
  ·simp only [abd hxt]; exact h.cl x hx
 hd i x hx:=by
  by_cases hi:i=m
  ·subst hi
   simp only [aay] at hx
   rcases hl x hx with ⟨k,k2⟩ | ⟨k,k2⟩
   ·subst k; exact ⟨ht,by simp only [abk]; exact k2⟩
   ·have:=h.hd i x k2
    exact ⟨this.1,by simp only [abd k]; exact this.2⟩
  ·simp only [abm hi] at hx
   have:=h.hd i x hx
   have hxt:x≠t:=fun k =>by
    rw [k] at this
    exact hi (own i (by rw [this.2]; rfl))
   exact ⟨this.1,by simp only [abd hxt]; exact this.2⟩
 nd i:=by
  by_cases hi:i=m
  ·subst hi; simp only [aay]; exact hn
  ·simp only [abm hi]; exact h.nd i
 ph i:=by
  by_cases hi:i=m
  ·subst hi; simp only [aay]; revert hp; cases p<;>exact id
  ·simp only [abm hi]
   have hv:=h.ph i
   have key:∀ {x s},a.ts x=s→s.mine=some i→x≠t:=fun e1 e2 k =>hi (own i (by rw [← k,e1]; exact e2))
   have key2:∀ {x u},a.ts x=.wait u→a.ts u=.fg i→x≠t:=fun e1 e2 k =>hi (by
    have:=(hw _ (k▸e1)).2
    rw [e2] at this
    exact Ts.fg.inj this)
   cases hq:a.ph i with
   | n =>trivial
   | p x =>rw [hq] at hv; exact ⟨hv.1,by simp only [abd (key hv.2 rfl)]; exact hv.2⟩
   | q x =>rw [hq] at hv; exact ⟨hv.1,by simp only [abd (key hv.2 rfl)]; exact hv.2⟩
   | j x u =>rw [hq] at hv; exact ⟨hv.1,by simp only [abd (key (h.hd i x hv.1).2 rfl)]; exact hv.2⟩
   | b x u =>rw [hq] at hv; exact ⟨hv.1,by simp only [abd (key hv.2.1 rfl)]; exact hv.2.1,by simp only [abd (key hv.2.1 rfl)]; exact hv.2.2⟩
   | r x =>rw [hq] at hv; exact ⟨hv.1,by simp only [abd (key hv.2 rfl)]; exact hv.2⟩
   | f x =>rw [hq] at hv; exact ⟨hv.1,by simp only [abd (key hv.2 rfl)]; exact hv.2⟩
   | g x =>rw [hq] at hv; exact ⟨hv.1,by simp only [abd (key hv.2.1 rfl)]; exact hv.2.1,fun w hw1 hj =>by
     have:=hv.2.2 w hw1 hj
     simp only [abd (key2 this hv.2.1)]; exact this⟩
   | h x w =>rw [hq] at hv; exact ⟨hv.1,by simp only [abd (key hv.2.1 rfl)]; exact hv.2.1,hv.2.2.1,by simp only [abd (key2 hv.2.2.2 hv.2.1)]; exact hv.2.2.2⟩
 j1 u w hu hw1 ho1 hj:=by
  have ho2:¬ (a.ts u).over:=fun k =>by
   by_cases hut:u=t
   ·subst hut; simp only [abk] at ho1; exact ho1 (ho k)
   ·simp only [abd hut] at ho1; exact ho1 k
  have:=h.j1 u w hu hw1 ho2 hj
  have hwt:w≠t:=fun k =>by
   subst k
   have:=(hw u this).2
   rw [this] at ho2
   exact ho2 trivial
  simp only [abd hwt]; exact this
 jb:=h.jb
 c4 i x hx hf:=by
  by_cases hxt:x=t
  ·subst hxt
   simp only [abk] at hf
   obtain ⟨k1,k2⟩:=h4 i hf
   subst k1; simp only [aay]; exact k2
  ·simp only [abd hxt] at hf
   have:=h.c4 i x hx hf
   have hi:i≠m:=fun k =>h5 x hxt (k▸this)
   simp only [abm hi]; exact this
theorem LA.step {a:Ab} (h:LA a) {m:Nat} {l:List Int} {p:Ph} (hl:∀ x∈l,x∈a.hd m) (hn:l.Nodup) (hf:∀ x,a.ph m=.f x→p=.f x) (hp:a.phOk m l p) :
  LA { a with hd:=ahX a.hd m l,ph:=ahX a.ph m p } where
 n0:=h.n0
 no:=h.no
 cl:=h.cl
 hd i x hx:=by
  by_cases hi:i=m
  ·subst hi; simp only [aay] at hx; exact h.hd i x (hl x hx)
  ·simp only [abm hi] at hx; exact h.hd i x hx
 nd i:=by
  by_cases hi:i=m
  ·subst hi; simp only [aay]; exact hn
  ·simp only [abm hi]; exact h.nd i
 ph i:=by
  by_cases hi:i=m
  ·subst hi; simp only [aay]; revert hp; cases p<;>exact id
  ·simp only [abm hi]
   have hv:=h.ph i
   revert hv
   cases a.ph i<;>exact id
 j1:=h.j1
 jb:=h.jb
 c4 i x hx hq:=by
  have:=h.c4 i x hx hq
  by_cases hi:i=m
  ·subst hi; simp only [aay]; exact hf x this
  ·simp only [abm hi]; exact this
theorem LA.setJ {a:Ab} (h:LA a) {u v:Int} (h0:v≠0) (hb:v≤4294967296) (hv:∀ w,a.ok w→v=w+1→a.ts w=.wait u):LA { a with J:=upd a.J u v } where
 n0:=h.n0
 no:=h.no
 cl x hx:=by
  obtain ⟨c1,c2,c3⟩:=h.cl x hx
  refine ⟨c1,c2,?_⟩
  by_cases hxu:x=u
  ·subst hxu
   simp only [abk]
   revert c3
   cases a.ts x<;>first | exact id | exact fun k =>⟨k.1,k.2.1,k.2.2.1,k.2.2.2.1,h0⟩
  ·simp only [abd hxu]; exact c3
 hd:=h.hd
 nd:=h.nd
 ph i:=by
  have hq:=h.ph i
  revert hq
  cases a.ph i<;>first | exact id | skip
  case g x =>
   refine fun hq =>⟨hq.1,hq.2.1,fun w hw hj =>?_⟩
   by_cases hxu:x=u
   ·subst hxu; simp only [abk] at hj; exact hv w hw hj
   ·simp only [abd hxu] at hj; exact hq.2.2 w hw hj
 j1 x w hx hw ho hj:=by
  by_cases hxu:x=u
  ·subst hxu; simp only [abk] at hj; exact hv w hw hj
  ·simp only [abd hxu] at hj; exact h.j1 x w hx hw ho hj
 jb x hx:=by
  by_cases hxu:x=u
  ·subst hxu; simp only [abk]; exact hb
  ·simp only [abd hxu]; exact h.jb x hx
 c4:=h.c4
theorem LA.next {a:Ab} (h:LA a) {n:Int} (hn:a.N≤n) (ht:a.T≤a.N):LA { a with N:=n } where
 n0:=by have:=h.n0; show 0≤n; omega
 no:=h.no
 cl x hx:=by
  obtain ⟨c1,c2,c3⟩:=h.cl x hx
  have hx2:x<a.T:=hx.2
  exact ⟨c1,⟨fun k =>by have:=c2.1 k; omega,fun k =>by have k:n≤x:=k; omega⟩,c3⟩
 hd:=h.hd
 nd:=h.nd
 ph i:=by
  have hq:=h.ph i
  revert hq
  cases a.ph i<;>exact id
 j1:=h.j1
 jb:=h.jb
 c4:=h.c4
theorem LA.alloc {a:Ab} (h:LA a) {m:Nat} (ht:a.N<a.T) {l:List Int} (hl:∀ x∈l,x∈a.hd m) (hn:l.Nodup) (hp:a.ph m=.n) :
  LA { a with N:=a.N+1,st:=upd a.st a.N false,wa:=upd a.wa a.N (-1),ts:=upd a.ts a.N (.alloc m),hd:=ahX a.hd m l,ph:=ahX a.ph m (.p a.N) }:=by
 have hok:a.ok a.N:=⟨h.n0,ht⟩
 have hN:=h.cl _ hok
 have hfr:a.ts a.N=.fresh:=hN.2.1.2 (Int.le_refl _)
 have hne:∀ {x s},a.ts x=s→s≠.fresh→x≠a.N:=fun e1 e2 k =>e2 (by rw [← e1,k,hfr])
 rw [hfr] at hN
 obtain ⟨n1,n2,n3⟩:=hN
 refine ⟨by show 0≤a.N+1; have:=h.n0; omega,h.no,fun x hx =>?_,fun i x hx =>?_,fun i =>?_,fun i =>?_,fun u w hu hw ho hj =>?_,h.jb,fun i x hx hf =>?_⟩
 ·by_cases hxN:x=a.N
  ·subst hxN
   simp only [abk]
   refine ⟨by rw [n1,n3.2.1],⟨fun k =>(by cases k),fun k =>(by have k:a.N+1≤a.N:=k; omega)⟩,n3.1,rfl,n3.2.2.1,n3.2.2.2⟩
  ·simp only [abd hxN]
   obtain ⟨c1,c2,c3⟩:=h.cl x hx
   exact ⟨c1,⟨fun k =>by have:=c2.1 k; omega,fun k =>c2.2 (by omega)⟩,c3⟩
 ·have key:x∈a.hd i:=by
   by_cases hi:i=m
   ·subst hi; simp only [aay] at hx; exact hl x hx
   ·simp only [abm hi] at hx; exact hx
  have:=h.hd i x key
  exact ⟨this.1,by simp only [abd (hne this.2 (by intro k; cases k))]; exact this.2⟩
 ·by_cases hi:i=m
  ·subst hi; simp only [aay]; exact hn
  ·simp only [abm hi]; exact h.nd i
 ·by_cases hi:i=m
  ·subst hi; simp only [aay]; exact ⟨hok,by simp only [abk]⟩
  ·simp only [abm hi]
   have hv:=h.ph i
   cases hq:a.ph i with
   | n =>trivial
   | p x =>rw [hq] at hv; exact ⟨hv.1,by simp only [abd (hne hv.2 (by intro k; cases k))]; exact hv.2⟩
   | q x =>rw [hq] at hv; exact ⟨hv.1,by simp only [abd (hne hv.2 (by intro k; cases k))]; exact hv.2⟩
   | j x u =>rw [hq] at hv; exact ⟨hv.1,by simp only [abd (hne (h.hd i x hv.1).2 (by intro k; cases k))]; exact hv.2⟩
   | b x u =>rw [hq] at hv; exact ⟨hv.1,by simp only [abd (hne hv.2.1 (by intro k; cases k))]; exact hv.2.1,by simp only [abd (hne hv.2.1 (by intro k; cases k))]; exact hv.2.2⟩
   | r x =>rw [hq] at hv; exact ⟨hv.1,by simp only [abd (hne hv.2 (by intro k; cases k))]; exact hv.2⟩
   | f x =>rw [hq] at hv; exact ⟨hv.1,by simp only [abd (hne hv.2 (by intro k; cases k))]; exact hv.2⟩
   | g x =>rw [hq] at hv; exact ⟨hv.1,by simp only [abd (hne hv.2.1 (by intro k; cases k))]; exact hv.2.1,fun w hw1 hj =>by
     have:=hv.2.2 w hw1 hj
     simp only [abd (hne this (by intro k; cases k))]; exact this⟩
   | h x w =>rw [hq] at hv; exact ⟨hv.1,by simp only [abd (hne hv.2.1 (by intro k; cases k))]; exact hv.2.1,hv.2.2.1,by simp only [abd (hne hv.2.2.2 (by intro k; cases k))]; exact hv.2.2.2⟩
 ·have ho2:¬ (a.ts u).over:=fun k =>by
   by_cases hut:u=a.N
   ·rw [hut,hfr] at k; exact k
   ·simp only [abd hut] at ho; exact ho k
  have:=h.j1 u w hu hw ho2 hj
  simp only [abd (hne this (by intro k; cases k))]; exact this
 ·have hxN:x≠a.N:=fun k =>by
   rw [k] at hf; simp only [abk] at hf; cases hf
  simp only [abd hxN] at hf
  have:=h.c4 i x hx hf
  have hi:i≠m:=fun k =>by rw [k,hp] at this; cases this
  simp only [abm hi]; exact this
theorem aJi {T:Int} {wa:Int→Int} {st:Int→Bool} (hs:∀ t,0≤t→t<T→st t=false):LA ⟨T,0,fun _ =>0,fun _ =>0,wa,st,fun _ =>0,fun _ =>0,fun _ =>0,fun _ =>.fresh,fun _ =>[],fun _ =>.n⟩ where
 n0:=Int.le_refl 0
 no _ _:=⟨rfl,rfl,rfl⟩
 cl t ht:=by
  have h:st t=false:=hs t ht.1 ht.2
  exact ⟨by simp only [h]; rfl,⟨fun _ =>ht.1,fun _ =>rfl⟩,rfl,h,rfl,rfl⟩
 hd _ _ h:=by cases h
 nd _:=.nil
 ph _:=trivial
 j1 u w hu hw _ hj:=by have:=hw.1; have hj:0=w+1:=hj; omega
 jb _ _:=by show (0:Int)≤_; omega
 c4 _ _ _ h:=by cases h
end
section
open Go Go.RowKit
set_option maxRecDepth 100000
variable [Tb]
abbrev Stt (c:Cfg) (e:EnvP) (t:Int):Int:=e.gt (aa8 (aap c) t)
abbrev Jo (c:Cfg) (e:EnvP) (t:Int):Int:=e.gt (ac4 (aap c) t)
abbrev Wt (c:Cfg) (e:EnvP) (t:Int):Int:=e.gt (adp (aap c) t)
structure Qs (c:Cfg) (e e':EnvP):Prop where
 st:∀ t,Stt c e' t=Stt c e t
 jo:∀ t,Jo c e' t=Jo c e t
 wa:∀ t,Wt c e' t=Wt c e t
 nx:e'.gt 0=e.gt 0
 rc:e'.recs=e.recs
 ev:∃ l,e'.evs=e.evs++l∧∀ x∈l,11≤x.kind
def N7 (c:Cfg) (a:Int):Prop:=ckC c a≠0∧ckC c a≠7
section
variable {c:Cfg} {e e':EnvP} {a v k o w x:Int}
theorem aur (h:DecOk c) {t f:Int} (hf:0≤f∧f<5) (hf1:f≠1) (h0:0≤ac0 (aap c) t f):ckC c (ac0 (aap c) t f)=7:=by
 have e1:=ap0 h (t:=t) hf
 have e2:=adt h (t:=t) hf
 by_cases ht:0≤t∧t<c.tasks
 ·rw [e1,if_pos ht,if_neg hf1]
 ·rw [e2,if_neg ht] at h0; omega
theorem aJF (h:DecOk c) {t u f g:Int} (hf:0≤f∧f<5) (hg:0≤g∧g<5) (hne:f≠g) (h0:0≤ac0 (aap c) t f):ac0 (aap c) t f≠ac0 (aap c) u g:=by
 have e1:=adt h (t:=t) hf
 have e2:=adt h (t:=u) hg
 intro k
 by_cases ht:0≤t∧t<c.tasks
 ·rw [if_pos ht] at e1
  by_cases hu:0≤u∧u<c.tasks
  ·rw [if_pos hu] at e2; omega
  ·rw [if_neg hu] at e2; omega
 ·rw [e1,if_neg ht] at h0; omega
theorem aIg (h:DecOk c) {t u f:Int} (hf:0≤f∧f<5) (ht:TOk c t) (k:ac0 (aap c) u f=ac0 (aap c) t f):u=t:=by
 have e1:=adt h (t:=t) hf
 have e2:=adt h (t:=u) hf
 have e3:=aeR h
 have h4:=h.h
 have ht:0≤t∧t<c.tasks:=ht
 rw [if_pos ht] at e1
 by_cases hu:0≤u∧u<c.tasks
 ·rw [if_pos hu] at e2; omega
 ·rw [if_neg hu] at e2; omega
theorem aG2 (h:DecOk c) (ha:N7 c a) {t f:Int} (hf:0≤f∧f<5) (hf1:f≠1):(e.pt k a v).gt (ac0 (aap c) t f)=e.gt (ac0 (aap c) t f):=by
 rw [aio,if_neg]
 intro h'
 have:=aur h (t:=t) hf hf1 (by omega)
 rw [h'.1] at this
 exact ha.2 this
theorem akO (h:DecOk c) {t u f g:Int} (hf:0≤f∧f<5) (hg:0≤g∧g<5) (hne:f≠g):(e.pt k (ac0 (aap c) u g) v).gt (ac0 (aap c) t f)=e.gt (ac0 (aap c) t f):=by
 rw [aio,if_neg]
 intro h'
 exact aJF h hf hg hne (by omega) h'.1
theorem avn (h:DecOk c) {u g:Int} (hg:0≤g∧g<5) (hg1:g≠1):(e.pt k (ac0 (aap c) u g) v).gt 0=e.gt 0:=by
 rw [aio,if_neg]
 intro h'
 have:=aur h (t:=u) hg hg1 (by omega)
 rw [← h'.1,ae4] at this
 omega
theorem Qs.refl:Qs c e e:=⟨fun _ =>rfl,fun _ =>rfl,fun _ =>rfl,rfl,rfl,[],by simp,fun x hx =>by cases hx⟩
theorem Qs.lk:Qs c e (e.lk a):=⟨fun _ =>apx,fun _ =>apx,fun _ =>apx,apx,rfl,[],by show e.evs=_; simp,fun x hx =>by cases hx⟩
theorem Qs.wr (h:DecOk c) (ha:N7 c a):Qs c e (e.pt k a v) :=
 ⟨fun t =>aG2 h ha (f:=0) (by omega) (by omega),fun t =>aG2 h ha (f:=2) (by omega) (by omega),fun t =>aG2 h ha (f:=3) (by omega) (by omega),by
  rw [aio,if_neg]
  intro h'
  have:=ha.1
  rw [← h'.1,ae4] at this
  exact this rfl,rfl,[],by show e.evs=_; simp,fun x hx =>by cases hx⟩
theorem Qs.since (h:DecOk c) {t:Int}:Qs c e (e.pt k (amy (aap c) t) v) :=
 ⟨fun t =>akO h (f:=0) (by omega) (by omega) (by omega),fun t =>akO h (f:=2) (by omega) (by omega) (by omega),fun t =>akO h (f:=3) (by omega) (by omega) (by omega),avn h (by omega) (by omega),rfl,[],by show e.evs=_; simp,fun x hx =>by cases hx⟩
theorem Qs.cas (h:DecOk c) (ha:N7 c a):Qs c e (e.cas a o v):=Qs.wr h ha
theorem Qs.em {t l:Int} (h:Qs c e e') (hk:11≤k):Qs c e (e'.em k w t o l):=by
 obtain ⟨m,hm,hp⟩:=h.ev
 refine ⟨h.st,h.jo,h.wa,h.nx,h.rc,m++[⟨k,w,t,o,l⟩],by show e'.evs++[_]=_; rw [hm,List.append_assoc],fun x hx =>?_⟩
 rcases List.mem_append.1 hx with hx | hx
 ·exact hp x hx
 ·rw [List.mem_singleton.1 hx]; exact hk
theorem aER (h:DecOk c) (w v:Int):N7 c (aaz (aap c) w v).top:=by
 have h3:=h.q
 unfold N7
 rcases ahK h w v with e | ⟨k,h1,h2,e⟩<;>rw [e]
 ·rw [agZ]; omega
 ·have:=avD h ⟨h1,h2⟩ (j:=0) (by omega)
  rw [Int.add_zero,if_pos (by omega)] at this
  show ckC c ((aap c).queues+k*(2+c.deque))≠0∧ckC c ((aap c).queues+k*(2+c.deque))≠7
  omega
theorem am3 (h:DecOk c) (w v:Int):N7 c (aaz (aap c) w v).bottom:=by
 have h3:=h.q
 unfold N7
 rcases ahK h w v with e | ⟨k,h1,h2,e⟩<;>rw [e]
 ·rw [agZ]; omega
 ·have:=avD h ⟨h1,h2⟩ (j:=1) (by omega)
  rw [if_pos (by omega)] at this
  show ckC c ((aap c).queues+k*(2+c.deque)+1)≠0∧ckC c ((aap c).queues+k*(2+c.deque)+1)≠7
  omega
theorem aGC (h:DecOk c) (w v:Int) {b:Int} (hb:0≤b):N7 c (ah0 (aaz (aap c) w v) b):=by
 have:=ap2 h w v hb
 unfold N7; omega
theorem atm (h:DecOk c) {i:Int}:N7 c (afx (aap c) i):=by have:=ap1 h (i:=i); unfold N7; omega
theorem aq1 (h:DecOk c) {w:Int}:N7 c (aaK (aap c) w):=by have:=avL h (w:=w); unfold N7; omega
theorem aDy (h:DecOk c) {w:Int}:N7 c (ahc (aap c) w):=by have:=ayA h (w:=w); unfold N7; omega
theorem ahm (h:DecOk c) {t:Int}:N7 c (aaW (aap c) t):=by have:=agQ h (t:=t); unfold N7; omega
theorem aq0 (h:DecOk c) {a:Int} (ha:1≤a∧a≤3):N7 c a:=by have:=ayt h ha; unfold N7; omega
theorem atn (h:MI c e):N7 c (aiD w e):=by have:=auy (w:=w) h; unfold N7; omega
theorem aGB {j:Int} (h:MI c e):N7 c (anM v j e):=by have:=axl (v:=v) (j:=j) h; unfold N7; omega
theorem aGr (h:MI c e) (s:OPushS) (hs:aoJ s):Qs c e (afS (aaz (aap c) w v) x e s).2:=by
 cases s with
 | l1 =>exact .lk
 | l2 b =>exact .lk
 | l3 b =>exact .wr h.d (aGC h.d _ _ hs)
 | l4 b =>exact .wr h.d (am3 h.d _ _)
theorem aIH (h:MI c e) (s:OPopS):Qs c e (apr (aaz (aap c) w v) e s).2:=by
 cases s with
 | l1 =>exact .lk
 | l2 b =>exact .lk
 | l3 b t =>exact .wr h.d (am3 h.d _ _)
 | l4 b t =>exact .lk
 | l5 b t =>exact .lk
 | l6 b t =>exact .cas h.d (aER h.d _ _)
 | l7 b t =>exact .wr h.d (am3 h.d _ _)
 | l8 b t =>exact .lk
 | l9 b t =>exact .wr h.d (am3 h.d _ _)
theorem azE (h:MI c e) (s:StealS):Qs c e (aiA (aaz (aap c) w v) e s).2:=by
 cases s with
 | l1 =>exact .lk
 | l2 b =>exact .lk
 | l3 t =>exact .lk
 | l4 t u =>exact .cas h.d (aER h.d _ _)
theorem awg {a b:Int} (h:MI c e) (s:ResetS):Qs c e (agE (aaK (aap c) a) b (aaz (aap c) w v) e s).2:=by
 cases s with
 | l1 =>exact .wr h.d (aq1 h.d)
 | l2 =>exact .lk
 | l3 x =>exact .lk
 | l4 x =>exact .wr h.d (aq1 h.d)
theorem aKC {a b:Int} (h:MI c e):Qs c e (aFU (aaK (aap c) a) b e):=.wr h.d (aq1 h.d)
theorem aq6 {o:Int} (h:MI c e):Qs c e (awN o e):=.cas h.d (aq0 h.d (by omega))
theorem avp (h:MI c e):Qs c e (avr e):=.wr h.d (aq0 h.d (by omega))
theorem apQ {d t:Int} (h:MI c e) (s:InsertS):Qs c e (acy d t e s).2:=by
 cases s with
 | l1 =>exact .lk
 | l2 n =>exact .wr h.d (aq0 h.d (by omega))
 | l3 n i k x =>exact .lk
 | l4 n i k x =>
  unfold acy
  rw [h.l]
  exact .wr h.d (atm h.d)
 | l5 n i k x =>
  unfold acy
  rw [h.l]
  exact .wr h.d (atm h.d)
 | l6 n i k x =>exact .wr h.d (aq0 h.d (by omega))
theorem aC0 (h:MI c e) (s:RemoveS):Qs c e (adB w e s).2:=by
 cases s with
 | l1 =>exact .lk
 | l2 n =>exact .lk
 | l3 n x =>exact .lk
 | l4 n x y =>exact (Qs.wr h.d (aq0 h.d (by omega))).em (by omega)
 | l5 n i d x y z =>exact .lk
 | l6 n i d x y z =>exact .lk
 | l7 n i d x y z =>
  unfold adB
  rw [h.l]
  exact .wr h.d (atm h.d)
 | l8 n i d x y z =>
  unfold adB
  rw [h.l]
  exact .wr h.d (atm h.d)
theorem azN (h:MI c e) (s:SleepS):Qs c e (agD w e s).2:=by
 cases s with
 | l1 =>exact .lk
 | l2 ep =>exact .wr h.d (atn h)
 | l3 ep =>exact .lk
 | l4 ep v =>
  simp only [agD]
  split
  ·exact .lk
  ·split
   ·exact Qs.lk.em (by omega)
   ·exact .lk
 | l5 ep v s =>
  simp only [agD]
  split
  ·exact Qs.lk.em (by omega)
  ·split
   ·exact Qs.lk.em (by omega)
   ·exact .lk
 | l6 _ _ _ =>exact .wr h.d (atn h)
 | l7 _ _ _ =>exact .wr h.d (atn h)
theorem amq (h:MI c e) (s:WakeS):Qs c e (aej w v e s).2:=by
 cases s with
 | l1 j =>exact .lk
 | l2 j x =>exact .wr h.d (aGB h)
 | l3 j x =>
  show Qs c e ((e.pt 6 (ahc e.l x) _).em 18 w 0 x 0)
  rw [h.l]
  exact (Qs.wr h.d (aDy h.d)).em (by omega)
theorem aAi (s:ProbeS):Qs c e (akn w e s).2:=by
 have g:∀ s i bm,Qs c e (ajM w e s i bm).2:=fun s i bm =>by
  unfold ajM
  split
  ·exact .refl
  ·simp only
   split
   ·exact .lk
   ·exact .lk
 cases s with
 | new =>exact g _ _ _
 | run s i bm =>exact g _ _ _
theorem aGd {t:Int} (h:MI c e) (s:RaiseS):Qs c e (adZ w t v e s).2:=by
 unfold adZ
 rw [h.l]
 split
 ·exact .refl
 ·cases s with
  | l1 q =>exact .lk
  | l2 q =>
   simp only
   split
   ·exact (Qs.cas h.d (ahm h.d)).em (by omega)
   ·exact .cas h.d (ahm h.d)
theorem akC (h:MI c e) (s:LPushS) (hs:ajH s):Qs c e (abL w v x e s).2:=by
 have g:∀ s,aoJ s→Qs c e (match afS (aaz e.l w v) x e s with
   | (.go s,e') =>(Rs.go (LPushS.push s),e')
   | (.fin c _,e') =>(if c=3 then .fin 3 0 else .go .set,e')).2:=fun s hs =>by
  have:=aGr (w:=w) (v:=v) (x:=x) h s hs
  rw [h.l]
  revert this
  rcases afS (aaz (aap c) w v) x e s with ⟨r,e'⟩
  intro this
  cases r<;>exact this
 cases s with
 | new =>exact g .l1 trivial
 | push s =>exact g _ hs
 | set =>
  show Qs c e (aFU (aaK e.l w) v e)
  rw [h.l]
  exact aKC h
theorem aEU (h:MI c e) (s:LPopS):Qs c e (aim w e s).2:=by
 cases s with
 | l1 v =>exact .lk
 | l2 v s =>
  have:=aIH (w:=w) (v:=v) h s
  simp only [aim]
  rw [h.l]
  revert this
  rcases apr (aaz (aap c) w v) e s with ⟨r,e'⟩
  intro this
  cases r<;>exact this
 | l3 v s =>
  have:=awg (w:=w) (v:=v) (a:=w) (b:=v) h s
  simp only [aim]
  rw [h.l]
  revert this
  rcases agE (aaK (aap c) w) v (aaz (aap c) w v) e s with ⟨r,e'⟩
  intro this
  cases r<;>exact this
theorem aH6 (h:MI c e) (s:WalkS) (hs:ao8 c v s):Qs c e (ae9 w v e s).2:=by
 have g:∀ t s,Qs c e (match adZ w t v e s with
   | (.go s,e') =>(Rs.go (WalkS.raise t s),e')
   | (.fin c _,e') =>(.go (if c=1 then .l2 t else .l4 t),e')).2:=fun t s =>by
  have:=aGd (w:=w) (v:=v) (t:=t) h s
  revert this
  rcases adZ w t v e s with ⟨r,e'⟩
  intro this
  cases r<;>exact this
 cases s with
 | l1 t =>
  simp only [ae9]
  split
  ·exact .refl
  ·exact g t _
 | raise t s =>exact g t s
 | l2 t =>exact .lk
 | push t s =>
  have:=akC (w:=w) (v:=v) (x:=t) h s hs.2
  simp only [ae9]
  revert this
  rcases abL w v t e s with ⟨r,e'⟩
  intro this
  cases r with
  | go s =>exact this
  | fin c0 v0 =>
   show Qs c e (if c0=3 then e'.em 19 w t 0 v else e')
   split
   ·exact this.em (by omega)
   ·exact this
 | l4 t =>exact .lk
theorem azB {t:Int} (h:MI c e) (s:SweepS) (hs:arO c s):Qs c e (aa4 w t e s).2:=by
 cases s with
 | l1 =>
  simp only [aa4]
  split
  ·exact .refl
  ·exact .lk
 | l2 =>exact .lk
 | l3 =>exact .lk
 | l4 q =>
  simp only [aa4]
  rw [h.l]
  split
  ·exact (Qs.cas h.d (ahm h.d)).em (by omega)
  ·exact .cas h.d (ahm h.d)
 | l5 q =>
  simp only [aa4]
  rw [h.l]
  exact .since h.d
 | l6 q s =>
  have:=akC (w:=w) (v:=wi (wi q+1)) (x:=t) h s hs
  simp only [aa4]
  revert this
  rcases abL w (wi (wi q+1)) t e s with ⟨r,e'⟩
  intro this
  cases r with
  | go s =>exact this
  | fin c0 v0 =>
   show Qs c e (if c0=3 then e'.em 19 w t 0 _ else e')
   split
   ·exact this.em (by omega)
   ·exact this
theorem aBA (h:MI c e) (d:DrainS) (hd:av0 c d):Qs c e (abT w e d).2:=by
 obtain ⟨x,dir,p,last,cnt,k⟩:=d
 obtain ⟨h1,h2⟩:=hd
 cases k with
 | l1 =>exact .lk
 | l2 =>exact aq6 h
 | l3 s =>
  have:=aC0 (w:=w) h s
  simp only [abT]
  revert this
  rcases adB w e s with ⟨r,e'⟩
  intro this
  cases r<;>exact this
 | l4 =>exact .lk
 | l5 s =>
  have:=akC (w:=w) (v:=p) (x:=x) h s h2.2
  simp only [abT]
  revert this
  rcases abL w p x e s with ⟨r,e'⟩
  intro this
  cases r<;>exact this
 | l6 =>exact avp h
 | l7 s =>
  have:=amq (w:=w) (v:=last) h s
  simp only [abT]
  revert this
  rcases aej w last e s with ⟨r,e'⟩
  intro this
  cases r<;>exact this
end
def ack (p:Int→Bool) (l:List Ev) (t:Int):Nat:=l.countP fun x =>decide (x.task=t) && p x.kind
def kKn (k:Int):Bool:=decide (k=1∨k=3)
def kSn (k:Int):Bool:=decide (k=5)
def kFn (k:Int):Bool:=decide (k=10)
def rcw (e:EnvP) (t:Int):Int:=if 0≤t then (e.rc t).waiting else -1
def rcs (e:EnvP) (t:Int):Bool:=if 0≤t then (e.rc t).started else false
abbrev Vw:=List Int×Ph
def ai5 (c:Cfg) (e:EnvP) (ts:Int→Ts) (vs:Nat→Vw):Ab :=
 ⟨c.tasks,e.gt 0,Stt c e,Jo c e,rcw e,rcs e,ack kKn e.evs,ack kSn e.evs,ack kFn e.evs,ts,fun m =>(vs m).1,fun m =>(vs m).2⟩
structure LI (c:Cfg) (e:EnvP) (vs:Nat→Vw):Prop where
 rl:(e.recs.length:Int)=c.tasks
 la:∃ ts,LA (ai5 c e ts vs)
def Lw (c:Cfg) (e e':EnvP) (v v':Vw):Prop:=∀ m vs,vs m=v→LI c e vs→LI c e' (ahX vs m v')
def Mi (x:Ev):Prop:=x.kind≠1∧x.kind≠3∧x.kind≠5∧x.kind≠10
theorem ahD {α:Type} {f:Nat→α} {m:Nat} {v:α} (h:f m=v):ahX f m v=f:=funext fun j =>by
 unfold ahX; split
 ·rename_i k; rw [k,h]
 ·rfl
theorem ayJ {α:Type} {f:Nat→α} {m:Nat} {v w:α}:ahX (ahX f m v) m w=ahX f m w:=funext fun j =>by
 unfold ahX; split<;>rfl
theorem ab7 {p:Int→Bool} {l k:List Ev} {t:Int}:ack p (l++k) t=ack p l t+ack p k t:=List.countP_append
theorem apZ {p:Int→Bool} {l:List Ev} {t:Int} (h:∀ x∈l,x.task=t→p x.kind=false):ack p l t=0:=by
 unfold ack
 rw [List.countP_eq_zero]
 intro x hx
 by_cases k:x.task=t
 ·rw [h x hx k]; simp
 ·simp [k]
theorem adn {p:Int→Bool} {k w t o v u:Int}:ack p [⟨k,w,t,o,v⟩] u=if t=u∧p k=true then 1 else 0:=by
 unfold ack
 rw [List.countP_cons,List.countP_nil]
 simp
section
variable {c:Cfg} {e e1 e':EnvP} {v v1 v':Vw}
theorem Lw.trans (h1:Lw c e e1 v v1) (h2:Lw c e1 e' v1 v'):Lw c e e' v v':=fun m vs hv h =>by
 have:=h2 m _ aay (h1 m vs hv h)
 rw [ayJ] at this
 exact this
structure Of1 (c:Cfg) (e e':EnvP) (t:Int):Prop where
 st:∀ x,x≠t→Stt c e' x=Stt c e x
 jo:∀ x,Jo c e' x=Jo c e x
 nx:e'.gt 0=e.gt 0
 rl:e'.recs.length=e.recs.length
 rc:∀ x,x≠t→0≤x→e'.rc x=e.rc x
 ev:∃ l,e'.evs=e.evs++l∧∀ y∈l,y.task=t∨Mi y
theorem aJc {x:Ev} (h:Mi x):kKn x.kind=false:=by unfold kKn; rw [decide_eq_false_iff_not]; unfold Mi at h; omega
theorem aJa {x:Ev} (h:Mi x):kSn x.kind=false:=by unfold kSn; rw [decide_eq_false_iff_not]; unfold Mi at h; omega
theorem aJd {x:Ev} (h:Mi x):kFn x.kind=false:=by unfold kFn; rw [decide_eq_false_iff_not]; unfold Mi at h; omega
theorem aJS {p:Int→Bool} (hp:∀ x,Mi x→p x.kind=false) {l k:List Ev} (hk:∀ x∈k,Mi x) {t:Int}:ack p (l++k) t=ack p l t:=by
 rw [ab7,apZ fun x hx _ =>hp x (hk x hx),Nat.add_zero]
theorem aEK {t:Int} {s0 s:Ts} {l:List Int} {p:Ph} (ht:TOk c t) (o:Of1 c e e' t)
  (H:∀ (a:Ab) (m:Nat),LA a→a.T=c.tasks→a.S=Stt c e→a.J=Jo c e→a.wa=rcw e→a.st=rcs e→a.kn=ack kKn e.evs→a.sn=ack kSn e.evs→a.fn=ack kFn e.evs→a.hd m=v.1→a.ph m=v.2 →
   ∃ s:Ts,(∀ m',(a.ts t).mine=some m'→m'=m)∧(∀ u,a.ts t=.wait u→a.ok u∧a.ts u=.fg m)∧((a.ts t).over→s.over) ∧
    Cl a.N t s (Stt c e' t) (rcw e' t) (Jo c e t) (rcs e' t) (ack kKn e'.evs t) (ack kSn e'.evs t) (ack kFn e'.evs t) ∧
    (∀ x∈l,(x=t∧s=.run m)∨(x≠t∧x∈a.hd m))∧l.Nodup∧(∀ m',s=.fin m'→m'=m∧p=.f t)∧(∀ x,x≠t→a.ph m≠.f x) ∧
    Ab.phOk { a with S:=upd a.S t (Stt c e' t),wa:=upd a.wa t (rcw e' t),st:=upd a.st t (rcs e' t),kn:=upd a.kn t (ack kKn e'.evs t),sn:=upd a.sn t (ack kSn e'.evs t),fn:=upd a.fn t (ack kFn e'.evs t),ts:=upd a.ts t s } m l p) :
  Lw c e e' v (l,p):=fun m vs hv h =>by
 obtain ⟨rl,ts,la⟩:=h
 obtain ⟨s,k1,k2,k3,k4,k5,k6,k7,k8,k9⟩:=H _ m la rfl rfl rfl rfl rfl rfl rfl rfl (by show (vs m).1=_; rw [hv]) (by show (vs m).2=_; rw [hv])
 have:=la.put (t:=t) ht k1 k2 k3 k4 k5 k6 k7 k8 k9
 refine ⟨by rw [o.rl]; exact rl,upd ts t s,?_⟩
 obtain ⟨k,hk,hm⟩:=o.ev
 have ec:∀ {q:Int→Bool},(∀ x,Mi x→q x.kind=false)→∀ x,upd (ack q e.evs) t (ack q e'.evs t) x=ack q e'.evs x:=fun {q} hq x =>by
  by_cases hx:x=t
  ·subst hx; exact abk
  ·rw [abd hx,hk,ab7,apZ (l:=k) fun y hy e1 =>?_,Nat.add_zero]
   rcases hm y hy with e2 | e2
   ·exact absurd (e1.symm.trans e2) hx
   ·exact hq y e2
 have q1:upd (Stt c e) t (Stt c e' t)=Stt c e':=funext fun x =>by
  by_cases hx:x=t
  ·subst hx; exact abk
  ·rw [abd hx,o.st x hx]
 have q2:upd (rcw e) t (rcw e' t)=rcw e':=funext fun x =>by
  by_cases hx:x=t
  ·subst hx; exact abk
  ·rw [abd hx]; unfold rcw; split
   ·rename_i h0; rw [o.rc x hx h0]
   ·rfl
 have q3:upd (rcs e) t (rcs e' t)=rcs e':=funext fun x =>by
  by_cases hx:x=t
  ·subst hx; exact abk
  ·rw [abd hx]; unfold rcs; split
   ·rename_i h0; rw [o.rc x hx h0]
   ·rfl
 have q4:Jo c e'=Jo c e:=funext o.jo
 have e1:ai5 c e' (upd ts t s) (ahX vs m (l,p))={ ai5 c e ts vs with S:=upd (Stt c e) t (Stt c e' t),wa:=upd (rcw e) t (rcw e' t),st:=upd (rcs e) t (rcs e' t),kn:=upd (ack kKn e.evs) t (ack kKn e'.evs t),sn:=upd (ack kSn e.evs) t (ack kSn e'.evs t),fn:=upd (ack kFn e.evs) t (ack kFn e'.evs t),ts:=upd ts t s,hd:=ahX (fun m =>(vs m).1) m l,ph:=ahX (fun m =>(vs m).2) m p }:=by
  rw [q1,q2,q3,funext (ec fun x =>aJc),funext (ec fun x =>aJa),funext (ec fun x =>aJd)]
  unfold ai5
  rw [q4,o.nx]
  congr 1
  ·funext j; unfold ahX; split<;>rfl
  ·funext j; unfold ahX; split<;>rfl
 rw [e1]
 exact this
theorem awf (h1:∀ t,Stt c e' t=Stt c e t) (h2:∀ t,Jo c e' t=Jo c e t) (h3:e'.gt 0=e.gt 0) (h4:e'.recs=e.recs) (h5:∃ l,e'.evs=e.evs++l∧∀ x∈l,Mi x) (ts:Int→Ts) (vs:Nat→Vw):ai5 c e' ts vs=ai5 c e ts vs:=by
 obtain ⟨l,hl,hm⟩:=h5
 have e1:Stt c e'=Stt c e:=funext h1
 have e2:Jo c e'=Jo c e:=funext h2
 have e3:rcw e'=rcw e:=funext fun t =>by unfold rcw EnvP.rc; rw [h4]
 have e4:rcs e'=rcs e:=funext fun t =>by unfold rcs EnvP.rc; rw [h4]
 have e5:∀ {q:Int→Bool},(∀ x,Mi x→q x.kind=false)→ack q e'.evs=ack q e.evs:=fun {q} hq =>funext fun t =>by rw [hl,aJS hq hm]
 unfold ai5
 rw [e1,e2,h3,e3,e4,e5 fun x =>aJc,e5 fun x =>aJa,e5 fun x =>aJd]
theorem Qs.mi (h:Qs c e e'):∃ l,e'.evs=e.evs++l∧∀ x∈l,Mi x:=by
 obtain ⟨l,hl,hm⟩:=h.ev
 exact ⟨l,hl,fun x hx =>by have:=hm x hx; unfold Mi; omega⟩
theorem axc {ts:Int→Ts} {vs:Nat→Vw} {m:Nat} {w:Vw}:ai5 c e ts (ahX vs m w)={ ai5 c e ts vs with hd:=ahX (fun m =>(vs m).1) m w.1,ph:=ahX (fun m =>(vs m).2) m w.2 }:=by
 unfold ai5
 congr 1
 ·funext j; unfold ahX; split<;>rfl
 ·funext j; unfold ahX; split<;>rfl
theorem awc {l:List Int} {p:Ph} (hl:∀ x∈l,x∈v.1) (hn:v.1.Nodup→l.Nodup) (hf:∀ x,v.2=.f x→p=.f x)
  (H:∀ (a:Ab) (m:Nat),LA a→a.T=c.tasks→a.J=Jo c e→a.wa=rcw e→a.hd m=v.1→a.ph m=v.2→a.phOk m l p):Lw c e e v (l,p):=fun m vs hv h =>by
 obtain ⟨rl,ts,la⟩:=h
 have e1:(ai5 c e ts vs).hd m=v.1:=by show (vs m).1=_; rw [hv]
 have e2:(ai5 c e ts vs).ph m=v.2:=by show (vs m).2=_; rw [hv]
 refine ⟨rl,ts,?_⟩
 rw [axc]
 exact la.step (fun x hx =>by rw [e1]; exact hl x hx) (hn (by rw [← e1]; exact la.nd m)) (fun x hx =>hf x (by rw [← e2]; exact hx)) (H _ m la rfl rfl rfl e1 e2)
theorem Lw.env {e0:EnvP} (h:∀ ts vs,ai5 c e' ts vs=ai5 c e ts vs) (hr:e'.recs.length=e.recs.length) (hv:Lw c e0 e v v'):Lw c e0 e' v v':=fun m vs hm hl =>by
 obtain ⟨rl,ts,la⟩:=hv m vs hm hl
 exact ⟨by rw [hr]; exact rl,ts,by rw [h]; exact la⟩
theorem Lw.refl:Lw c e e v v:=fun m vs hv h =>by rw [ahD hv]; exact h
theorem Lw.q (h:Qs c e e') (hv:Lw c e e v v'):Lw c e e' v v':=hv.env (awf h.st h.jo h.nx h.rc h.mi) (by rw [h.rc])
theorem Lw.qr {e0:EnvP} (h:Qs c e e') (hv:Lw c e0 e v v'):Lw c e0 e' v v':=hv.env (awf h.st h.jo h.nx h.rc h.mi) (by rw [h.rc])
theorem Lw.em {e0:EnvP} {k w t o x:Int} (hk:k≠1∧k≠3∧k≠5∧k≠10) (hv:Lw c e0 e v v'):Lw c e0 (e.em k w t o x) v v' :=
 Lw.env (e:=e) (e':=e.em k w t o x) (awf (fun _ =>rfl) (fun _ =>rfl) rfl rfl ⟨[⟨k,w,t,o,x⟩],rfl,fun y hy =>by rw [List.mem_singleton.1 hy]; exact hk⟩) rfl hv
theorem Lw.drop {l:List Int} (hl:∀ x∈l,x∈v.1) (hn:v.1.Nodup→l.Nodup) (hf:∀ x,v.2≠.f x):Lw c e e v (l,.n) :=
 awc hl hn (fun x h =>absurd h (hf x)) fun a m la hT hJ hw hh hp =>trivial
end
section
variable {c:Cfg} {e e1 e':EnvP} {v v1 v':Vw} {t u k x:Int}
theorem aIf (h:DecOk c) {f:Int} (hf:0≤f∧f<5) (ht:TOk c t):0≤ac0 (aap c) t f∧ac0 (aap c) t f<aaL c:=by
 have e1:=adt h (t:=t) hf
 have e3:=aeR h
 have h4:=h.h
 have ht:0≤t∧t<c.tasks:=ht
 rw [e1,if_pos ht]
 unfold aaL
 omega
theorem ars (h:DecOk c) (hl:(e.m.cells.length:Int)=aaL c) {f:Int} (hf:0≤f∧f<5) (ht:TOk c t):(e.pt k (ac0 (aap c) t f) x).gt (ac0 (aap c) t f)=x:=by
 have:=aIf h hf ht
 rw [aio,if_pos ⟨rfl,by omega⟩]
theorem atH (h:DecOk c) {f:Int} (hf:0≤f∧f<5) (ht:TOk c t) (hu:u≠t):(e.pt k (ac0 (aap c) t f) x).gt (ac0 (aap c) u f)=e.gt (ac0 (aap c) u f):=by
 rw [aio,if_neg]
 intro h'
 exact hu (aIg h hf ht h'.1)
theorem aoR (h:DecOk c) (hl:(e.m.cells.length:Int)=aaL c) (ht:TOk c t):Stt c (e.pt k (aa8 (aap c) t) x) t=x:=ars h hl (f:=0) (by omega) ht
theorem au8 (h:DecOk c) (ht:TOk c t):Of1 c e (e.pt k (aa8 (aap c) t) x) t :=
 ⟨fun u hu =>atH h (f:=0) (by omega) ht hu,fun u =>akO h (f:=2) (by omega) (by omega) (by omega),avn h (by omega) (by omega),rfl,fun _ _ _ =>rfl,[],by show e.evs=_; simp,fun y hy =>by cases hy⟩
theorem aqY:Of1 c e e t:=⟨fun _ _ =>rfl,fun _ =>rfl,rfl,rfl,fun _ _ _ =>rfl,[],by simp,fun y hy =>by cases hy⟩
theorem Of1.em {w o y:Int} (h:Of1 c e e' t) (hk:u=t∨(k≠1∧k≠3∧k≠5∧k≠10)):Of1 c e (e'.em k w u o y) t:=by
 obtain ⟨m,hm,hp⟩:=h.ev
 refine ⟨h.st,h.jo,h.nx,h.rl,h.rc,m++[⟨k,w,u,o,y⟩],by show e'.evs++[_]=_; rw [hm,List.append_assoc],fun x hx =>?_⟩
 rcases List.mem_append.1 hx with hx | hx
 ·exact hp x hx
 ·rw [List.mem_singleton.1 hx]; exact hk
theorem aoT {r:RecP} (ht:0≤t) (hx:x≠t) (h0:0≤x):(e.pr t r).rc x=e.rc x:=by
 show atL _ (e.recs.set t.toNat r) x=atL _ e.recs x
 unfold atL
 rw [List.getElem?_set_ne (by omega)]
theorem akm {r:RecP} (ht:TOk c t) (hr:(e.recs.length:Int)=c.tasks):(e.pr t r).rc t=r:=by
 have ht:0≤t∧t<c.tasks:=ht
 exact anG (by omega)
theorem Of1.pr {r:RecP} (h:Of1 c e e' t) (ht:TOk c t):Of1 c e (e'.pr t r) t :=
 ⟨h.st,h.jo,h.nx,by show (e'.recs.set _ _).length=_; rw [List.length_set]; exact h.rl,fun x hx h0 =>by rw [aoT ht.1 hx h0]; exact h.rc x hx h0,h.ev⟩
theorem Of1.wt (h:Of1 c e e' t) (hd:DecOk c):Of1 c e (e'.pt k (adp (aap c) u) x) t :=
  ⟨fun y hy =>by rw [show Stt c (e'.pt k (adp (aap c) u) x) y=Stt c e' y from akO hd (f:=0) (by omega) (by omega) (by omega)]; exact h.st y hy,
   fun y =>by rw [show Jo c (e'.pt k (adp (aap c) u) x) y=Jo c e' y from akO hd (f:=2) (by omega) (by omega) (by omega)]; exact h.jo y,
   by rw [show (e'.pt k (adp (aap c) u) x).gt 0=e'.gt 0 from avn hd (by omega) (by omega)]; exact h.nx,h.rl,h.rc,h.ev⟩
theorem aC8 {s0 s:Nat→Ts} {l:List Int} {p:Ph} (ht:TOk c t) (o:Of1 c e e' t)
  (h0:∀ (a:Ab) (m:Nat),LA a→a.T=c.tasks→a.S=Stt c e→a.J=Jo c e→a.wa=rcw e→a.hd m=v.1→a.ph m=v.2→a.ts t=s0 m)
  (m0:∀ m m',(s0 m).mine=some m'→m'=m) (w0:∀ m u,s0 m≠.wait u) (f0:∀ m,s0 m≠.fresh) (f1:∀ m,s m≠.fresh) (ho:∀ m,(s0 m).over→(s m).over)
  (hsn:(ack kSn e.evs t=if rcs e t=true then 1 else 0)→ack kSn e'.evs t=if rcs e' t=true then 1 else 0)
  (hk:∀ m,aJ5 (s0 m) (Stt c e t) (rcw e t) (Jo c e t) (rcs e t) (ack kKn e.evs t) (ack kFn e.evs t)→aJ5 (s m) (Stt c e' t) (rcw e' t) (Jo c e t) (rcs e' t) (ack kKn e'.evs t) (ack kFn e'.evs t))
  (hl:∀ m,v.1.Nodup→(t∈v.1→s0 m=.run m)→∀ x∈l,(x=t∧s m=.run m)∨(x≠t∧x∈v.1)) (hn:∀ m,v.1.Nodup→(t∈v.1→s0 m=.run m)→l.Nodup)
  (h4:∀ m m',s m=.fin m'→m'=m∧p=.f t) (h5:∀ x,x≠t→v.2≠.f x)
  (hp:∀ (a:Ab) (m:Nat),LA a→a.T=c.tasks→a.J=Jo c e→a.wa=rcw e→a.hd m=v.1→a.ph m=v.2→a.ts t=s0 m →
   Ab.phOk { a with S:=upd a.S t (Stt c e' t),wa:=upd a.wa t (rcw e' t),st:=upd a.st t (rcs e' t),kn:=upd a.kn t (ack kKn e'.evs t),sn:=upd a.sn t (ack kSn e'.evs t),fn:=upd a.fn t (ack kFn e'.evs t),ts:=upd a.ts t (s m) } m l p) :
  Lw c e e' v (l,p):=aEK (s0:=.done) (s:=.done) ht o fun a m la hT hS hJ hw hst hkn hsn' hfn hh hph =>by
 have e0:=h0 a m la hT hS hJ hw hh hph
 have hok:a.ok t:=⟨ht.1,by rw [hT]; exact ht.2⟩
 obtain ⟨c1,c2,c3⟩:=la.cl t hok
 rw [e0,hS,hw,hJ,hst,hkn,hfn] at c3
 rw [hsn',hst] at c1
 rw [e0] at c2
 have q1:v.1.Nodup:=by rw [← hh]; exact la.nd m
 have q2:t∈v.1→s0 m=.run m:=fun k =>by rw [← e0]; rw [← hh] at k; exact (la.hd m t k).2
 refine ⟨s m,fun m' k =>m0 m m' (by rw [← e0]; exact k),fun u k =>absurd (e0.symm.trans k) (w0 m u),fun k =>ho m (by rw [← e0]; exact k),⟨hsn c1,⟨fun k =>absurd k (f1 m),fun k =>absurd (c2.2 k) (f0 m)⟩,hk m c3⟩,fun x hx =>?_,hn m q1 q2,h4 m,fun x hx k =>h5 x hx (hph.symm.trans k),hp a m la hT hJ hw hh hph e0⟩
 rw [hh]; exact hl m q1 q2 x hx
section
variable {l:List Int}
theorem aoh (h:(l++[t]).Nodup):l.Nodup∧t ∉ l:=by
 rw [List.nodup_append] at h
 exact ⟨h.1,fun k =>h.2.2 t k t (List.mem_singleton.2 rfl) rfl⟩
theorem azU {m:Nat} {a:Ab} (la:LA a) (hh:a.hd m=l) (ht:t∈l):a.ts t=.run m:=(la.hd m t (by rw [hh]; exact ht)).2
theorem okA {a:Ab} (hT:a.T=c.tasks) (ht:TOk c t):a.ok t:=⟨ht.1,by rw [hT]; exact ht.2⟩
theorem aA8 {x:Int} (hn:(l++[t]).Nodup) (hx:x∈l):x≠t∧x∈l++[t]:=⟨fun k =>(aoh hn).2 (k▸hx),List.mem_append_left _ hx⟩
theorem aHn (hd:DecOk c) (hl:(e.m.cells.length:Int)=aaL c) (ht:TOk c t):Lw c e (e.pt k (aa8 (aap c) t) 4) (l++[t],.n) (l,.f t):=by
 refine aC8 (s0:=fun m =>.run m) (s:=fun m =>.fin m) ht (au8 hd ht) (fun a m la hT hS hJ hw hh hp =>azU la hh (by simp)) (fun m m' k =>(Option.some.inj k).symm) (fun m u k =>by cases k) (fun m k =>by cases k) (fun m k =>by cases k) (fun m k =>k) (fun k =>k)
  (fun m k =>?_) (fun m hn _ x hx =>.inr (aA8 hn hx)) (fun m hn _ =>(aoh hn).1) (fun m m' k =>⟨(Ts.fin.inj k).symm,rfl⟩) (fun x hx k =>by cases k) fun a m la hT hJ hw hh hp e0 =>⟨okA hT ht,abk⟩
 exact ⟨aoR hd hl ht,k.2⟩
theorem aGI (hd:DecOk c) (hl:(e.m.cells.length:Int)=aaL c) (ht:TOk c t):Lw c e (e.pt k (aa8 (aap c) t) 3) (l++[t],.j t u) (l,.b t u):=by
 refine aC8 (s0:=fun m =>.run m) (s:=fun m =>.bm m) ht (au8 hd ht) (fun a m la hT hS hJ hw hh hp =>azU la hh (by simp)) (fun m m' k =>(Option.some.inj k).symm) (fun m u k =>by cases k) (fun m k =>by cases k) (fun m k =>by cases k) (fun m k =>k) (fun k =>k)
  (fun m k =>?_) (fun m hn _ x hx =>.inr (aA8 hn hx)) (fun m hn _ =>(aoh hn).1) (fun m m' k =>by cases k) (fun x hx k =>by cases k) fun a m la hT hJ hw hh hp e0 =>⟨okA hT ht,abk,?_⟩
 ·exact ⟨aoR hd hl ht,k.2⟩
 ·have:=la.ph m
  rw [hp] at this
  simp only [abk]
  have h2:a.wa t=u:=this.2
  rw [hw] at h2
  exact h2
theorem aGH:Lw c e e (l,.b t u) (l,.r t) :=
 awc (fun x hx =>hx) (fun h =>h) (fun x k =>by cases k) fun a m la hT hJ hw hh hp =>by
  have:=la.ph m
  rw [hp] at this
  exact ⟨this.1,this.2.1⟩
theorem aHz (hd:DecOk c) (hl:(e.m.cells.length:Int)=aaL c) (ht:TOk c t):Lw c e (e.pt k (aa8 (aap c) t) 2) (l,.r t) (l++[t],.n):=by
 refine aC8 (s0:=fun m =>.bm m) (s:=fun m =>.run m) ht (au8 hd ht) (fun a m la hT hS hJ hw hh hp =>?_) (fun m m' k =>(Option.some.inj k).symm) (fun m u k =>by cases k) (fun m k =>by cases k) (fun m k =>by cases k) (fun m k =>k) (fun k =>k)
  (fun m k =>?_) (fun m hn q x hx =>?_) (fun m hn q =>?_) (fun m m' k =>by cases k) (fun x hx k =>by cases k) fun a m la hT hJ hw hh hp e0 =>trivial
 ·have:=la.ph m
  rw [hp] at this
  exact this.2
 ·exact ⟨aoR hd hl ht,k.2⟩
 ·rcases List.mem_append.1 hx with hx | hx
  ·exact .inr ⟨fun k =>(by have:=q (k▸hx); cases this),hx⟩
  ·exact .inl ⟨List.mem_singleton.1 hx,rfl⟩
 ·exact List.nodup_append.2 ⟨hn,by simp,fun a ha b hb k =>by
   rw [List.mem_singleton.1 hb] at k
   have:=q (k▸ha)
   cases this⟩
theorem aFT (hd:DecOk c) (hl:(e.m.cells.length:Int)=aaL c) (hu:TOk c u) (hx:x≠0) (hb:x≤4294967296) (H:∀ (a:Ab) (m:Nat),LA a→a.T=c.tasks→a.wa=rcw e→a.hd m=v.1→a.ph m=v.2→∀ w,TOk c w→x=w+1→a.ts w=.wait u) :
  Lw c e (e.pt k (ac4 (aap c) u) x) v v:=fun m vs hv h =>by
 obtain ⟨rl,ts,la⟩:=h
 have:=la.setJ (u:=u) (v:=x) hx hb fun w hw =>H _ m la rfl rfl (by show (vs m).1=_; rw [hv]) (by show (vs m).2=_; rw [hv]) w hw
 rw [ahD hv]
 refine ⟨rl,ts,?_⟩
 have e1:Stt c (e.pt k (ac4 (aap c) u) x)=Stt c e:=funext fun t =>akO hd (f:=0) (by omega) (by omega) (by omega)
 have e2:Jo c (e.pt k (ac4 (aap c) u) x)=upd (Jo c e) u x:=funext fun t =>by
  by_cases ht:t=u
  ·subst ht; rw [abk]; exact ars hd hl (f:=2) (by omega) hu
  ·rw [abd ht]; exact atH hd (f:=2) (by omega) hu ht
 have e3:(e.pt k (ac4 (aap c) u) x).gt 0=e.gt 0:=avn hd (by omega) (by omega)
 have e4:ai5 c (e.pt k (ac4 (aap c) u) x) ts vs={ ai5 c e ts vs with J:=upd (Jo c e) u x }:=by
  unfold ai5; rw [e1,e2,e3]; rfl
 rw [e4]; exact this
theorem aJq (hd:DecOk c) (hl:(e.m.cells.length:Int)=aaL c) (hu:TOk c u):Lw c e (e.pt k (ac4 (aap c) u) (t+1)) (l,.b t u) (l,.n):=fun m vs hv hh =>by
 obtain ⟨rl,ts,la⟩:=hh
 have hph:=la.ph m
 have e2:(ai5 c e ts vs).ph m=.b t u:=by show (vs m).2=_; rw [hv]
 have e1:(ai5 c e ts vs).hd m=l:=by show (vs m).1=_; rw [hv]
 rw [e2] at hph
 obtain ⟨k1,k2,k3⟩:=hph
 obtain ⟨c1,c2,c3⟩:=la.cl t k1
 rw [k2] at c2 c3
 have hk1:0≤t:=k1.1
 have h1:=la.put (m:=m) (t:=t) k1 (s:=.wait u) (S:=Stt c e t) (wa:=rcw e t) (st:=rcs e t) (kn:=ack kKn e.evs t) (sn:=ack kSn e.evs t) (fn:=ack kFn e.evs t) (l:=l) (p:=.n)
  (fun m' k =>by rw [k2] at k; exact (Option.some.inj k).symm) (fun u k =>by rw [k2] at k; cases k) (fun k =>by rw [k2] at k; cases k)
  ⟨c1,⟨fun k =>(by cases k),fun k =>(by have:=c2.2 k; cases this)⟩,c3.1,c3.2.1,c3.2.2.1,c3.2.2.2,k3⟩
  (fun x hx =>.inr ⟨fun k =>(by
   have:=(la.hd m x (by rw [e1]; exact hx)).2
   rw [k,k2] at this; cases this),by rw [e1]; exact hx⟩) (by have:=la.nd m; rw [e1] at this; exact this) (fun m' k =>(by cases k)) (fun x hx k =>(by rw [e2] at k; cases k)) trivial
 have h2:=h1.setJ (u:=u) (v:=t+1) (by omega) (by have hk2:t<c.tasks:=k1.2; have:=hd.t; omega) fun w hw k =>by
  have:w=t:=by omega
  subst this; exact abk
 have q:∀ {α:Type} {f:Int→α},upd f t (f t)=f:=fun {α f} =>funext fun y =>by
  unfold upd; split
  ·rename_i h; rw [h]
  ·rfl
 have e3:Stt c (e.pt k (ac4 (aap c) u) (t+1))=Stt c e:=funext fun t =>akO hd (f:=0) (by omega) (by omega) (by omega)
 have e4:Jo c (e.pt k (ac4 (aap c) u) (t+1))=upd (Jo c e) u (t+1):=funext fun x =>by
  by_cases ht:x=u
  ·subst ht; rw [abk]; exact ars hd hl (f:=2) (by omega) hu
  ·rw [abd ht]; exact atH hd (f:=2) (by omega) hu ht
 have e5:(e.pt k (ac4 (aap c) u) (t+1)).gt 0=e.gt 0:=avn hd (by omega) (by omega)
 refine ⟨rl,upd ts t (.wait u),?_⟩
 rw [axc]
 have e6:({ ai5 c (e.pt k (ac4 (aap c) u) (t+1)) (upd ts t (.wait u)) vs with hd:=ahX (fun m =>(vs m).1) m (l,Ph.n).1,ph:=ahX (fun m =>(vs m).2) m (l,Ph.n).2 }:Ab)={ ai5 c e ts vs with S:=upd (Stt c e) t (Stt c e t),wa:=upd (rcw e) t (rcw e t),st:=upd (rcs e) t (rcs e t),kn:=upd (ack kKn e.evs) t (ack kKn e.evs t),sn:=upd (ack kSn e.evs) t (ack kSn e.evs t),fn:=upd (ack kFn e.evs) t (ack kFn e.evs t),ts:=upd ts t (.wait u),hd:=ahX (fun m =>(vs m).1) m l,ph:=ahX (fun m =>(vs m).2) m .n,J:=upd (Jo c e) u (t+1) }:=by
  unfold ai5
  rw [q,q,q,q,q,q,e3,e4,e5]; rfl
 rw [e6]
 exact h2
theorem aEJ (hd:DecOk c) (ht:TOk c t) (o:Of1 c e e' t) (hin:t∈l) (hS:Stt c e' t=Stt c e t) (hs:rcs e' t=rcs e t) (hk:ack kKn e'.evs t=ack kKn e.evs t) (hn:ack kSn e'.evs t=ack kSn e.evs t) (hf:ack kFn e'.evs t=ack kFn e.evs t) {p:Ph} (hp:p=.n∨p=.j t (rcw e' t)):Lw c e e' (l,.n) (l,p):=by
 refine aC8 (s0:=fun m =>.run m) (s:=fun m =>.run m) ht o (fun a m la hT hS hJ hw hh hp =>azU la hh hin) (fun m m' k =>(Option.some.inj k).symm) (fun m u k =>by cases k) (fun m k =>by cases k) (fun m k =>by cases k) (fun m k =>k) (fun k =>by rw [hn,hs]; exact k)
  (fun m k =>?_) (fun m hn _ x hx =>?_) (fun m hn _ =>hn) (fun m m' k =>by cases k) (fun x hx k =>by cases k) fun a m la hT hJ hw hh hph e0 =>?_
 ·rw [hS,hs,hk,hf]; exact k
 ·by_cases hx2:x=t
  ·exact .inl ⟨hx2,rfl⟩
  ·exact .inr ⟨hx2,hx⟩
 ·rcases hp with rfl | rfl
  ·trivial
  ·exact ⟨hin,abk⟩
theorem aE9 (o:Of1 c e e' t) (hp:v=(l,.f t)) (ht:TOk c t) (hj:Jo c e t≠0) (hS:Stt c e' t=Stt c e t) (hw:rcw e' t=rcw e t) (hs:rcs e' t=rcs e t) (hk:ack kKn e'.evs t=ack kKn e.evs t) (hn:ack kSn e'.evs t=ack kSn e.evs t) (hf:ack kFn e'.evs t=ack kFn e.evs t+1)
  {s:Nat→Ts} {p:Ph} (hsp:(∀ m,s m=.fg m)∧p=.g t∨(∀ m,s m=.done)∧p=.n):Lw c e e' v (l,p):=by
 subst hp
 refine aC8 (s0:=fun m =>.fin m) (s:=s) ht o (fun a m la hT hS hJ hw hh hp =>?_) (fun m m' k =>(Option.some.inj k).symm) (fun m u k =>by cases k) (fun m k =>by cases k) (fun m k =>?_) (fun m k =>k.elim) (fun k =>by rw [hn,hs]; exact k)
  (fun m k =>?_) (fun m hn q x hx =>.inr ⟨fun k =>(by have:=q (k▸hx); cases this),hx⟩) (fun m hn _ =>hn) (fun m m' k =>?_) (fun x hx k =>?_) fun a m la hT hJ hw2 hh hph e0 =>?_
 ·have:=la.ph m
  rw [hp] at this
  exact this.2
 ·rcases hsp with ⟨h1,_⟩ | ⟨h1,_⟩<;>rw [h1] at k<;>cases k
 ·rw [hS,hw,hs,hk,hf]
  rcases hsp with ⟨h1,_⟩ | ⟨h1,_⟩<;>rw [h1]
  ·exact ⟨k.1,k.2.1,k.2.2.1,by rw [k.2.2.2],hj⟩
  ·exact ⟨k.1,k.2.1,k.2.2.1,by rw [k.2.2.2],hj⟩
 ·rcases hsp with ⟨h1,_⟩ | ⟨h1,_⟩<;>rw [h1] at k<;>cases k
 ·cases k; exact hx rfl
 ·rcases hsp with ⟨h1,rfl⟩ | ⟨h1,rfl⟩
  ·refine ⟨okA hT ht,by simp only [abk]; exact h1 m,fun w hw3 hj2 =>?_⟩
   have h2:=la.j1 t w (okA hT ht) hw3 (by rw [e0]; exact id) hj2
   have h3:w≠t:=fun k =>by rw [k,e0] at h2; cases h2
   simp only [abd h3]; exact h2
  ·trivial
theorem aGM {w:Int} (hd:DecOk c) (hw:TOk c w) (h0:0≤Jo c e t) (hj:wi (wi (Jo c e t)-1)=w):Lw c e e (l,.g t) (l,.h t w) :=
 awc (fun x hx =>hx) (fun h =>h) (fun x k =>by cases k) fun a m la hT hJ hwa hh hp =>by
  have:=la.ph m
  rw [hp] at this
  have hb:=la.jb t this.1
  rw [hJ] at hb
  have ht:=hd.t
  have h1:0≤w∧w<c.tasks:=hw
  rw [aaC (x:=Jo c e t) (aai (by omega)),aaC (aai (by omega))] at hj
  exact ⟨this.1,this.2.1,okA hT hw,this.2.2 w (okA hT hw) (by rw [hJ]; omega)⟩
theorem aD4 (hd:DecOk c) (hl:(e.m.cells.length:Int)=aaL c) {w:Int} (hw:TOk c w):Lw c e (e.pt k (aa8 (aap c) w) 1) (l,.h t w) (l,.n) :=
 aEK (s0:=.done) (s:=.done) hw (au8 hd hw) fun a m la hT hS hJ hwa hst hkn hsn hfn hh hp =>by
  have hph:=la.ph m
  rw [hp] at hph
  obtain ⟨k1,k2,k3,k4⟩:=hph
  obtain ⟨c1,c2,c3⟩:=la.cl w k3
  rw [k4] at c2 c3
  rw [hsn,hst] at c1
  rw [hS,hwa,hJ,hst,hkn,hfn] at c3
  refine ⟨.ready,fun m' k =>(by rw [k4] at k; cases k),fun u k =>?_,fun k =>(by rw [k4] at k; cases k),⟨c1,⟨fun k =>(by cases k),fun k =>(by have:=c2.2 k; cases this)⟩,aoR hd hl hw,c3.2.2.1,c3.2.2.2.1⟩,fun x hx =>.inr ⟨fun k =>?_,by rw [hh]; exact hx⟩,?_,fun m' k =>(by cases k),fun x hx k =>(by rw [hp] at k; cases k),trivial⟩
  ·rw [k4] at k; cases k; exact ⟨k1,k2⟩
  ·have:=(la.hd m x (by rw [hh]; exact hx)).2
   rw [k,k4] at this; cases this
  ·have:=la.nd m; rw [hh] at this; exact this
theorem aCP (hd:DecOk c) (hl:(e.m.cells.length:Int)=aaL c) (ht:TOk c t) {w o y:Int}:Lw c e ((e.pt k (aa8 (aap c) t) 1).em 3 w t o y) (l,.p t) (l,.n):=by
 refine aC8 (s0:=fun m =>.alloc m) (s:=fun m =>.ready) ht ((au8 hd ht).em (.inl rfl)) (fun a m la hT hS hJ hw hh hp =>?_) (fun m m' k =>(Option.some.inj k).symm) (fun m u k =>by cases k) (fun m k =>?_) (fun m k =>by cases k) (fun m k =>k.elim) (fun k =>?_)
  (fun m k =>?_) (fun m hn q x hx =>.inr ⟨fun k =>(by have:=q (k▸hx); cases this),hx⟩) (fun m hn _ =>hn) (fun m m' k =>by cases k) (fun x hx k =>by cases k) fun a m la hT hJ hw hh hp e0 =>trivial
 ·have:=la.ph m
  rw [hp] at this
  exact this.2
 ·cases k
 ·show ack kSn (e.evs++[_]) t=_
  rw [ab7,adn,if_neg (by intro h; have:=h.2; revert this; decide)]
  exact k
 ·refine ⟨aoR hd hl ht,?_,?_⟩
  ·show ack kKn (e.evs++[_]) t=1
   rw [ab7,adn,if_pos ⟨rfl,by decide⟩,k.2.2.1]
  ·show ack kFn (e.evs++[_]) t=0
   rw [ab7,adn,if_neg (by intro h; have:=h.2; revert this; decide),k.2.2.2]
theorem avR (ht:TOk c t) {w o y:Int}:Lw c e (e.em 1 w t o y) (l,.p t) (l,.q t):=by
 refine aC8 (s0:=fun m =>.alloc m) (s:=fun m =>.acc m) ht (aqY.em (.inl rfl)) (fun a m la hT hS hJ hw hh hp =>?_) (fun m m' k =>(Option.some.inj k).symm) (fun m u k =>by cases k) (fun m k =>by cases k) (fun m k =>by cases k) (fun m k =>k.elim) (fun k =>?_)
  (fun m k =>?_) (fun m hn q x hx =>.inr ⟨fun k =>(by have:=q (k▸hx); cases this),hx⟩) (fun m hn _ =>hn) (fun m m' k =>by cases k) (fun x hx k =>by cases k) fun a m la hT hJ hw hh hp e0 =>⟨okA hT ht,abk⟩
 ·have:=la.ph m
  rw [hp] at this
  exact this.2
 ·show ack kSn (e.evs++[_]) t=_
  rw [ab7,adn,if_neg (by intro h; have:=h.2; revert this; decide)]
  exact k
 ·refine ⟨k.1,k.2.1,?_,?_⟩
  ·show ack kKn (e.evs++[_]) t=1
   rw [ab7,adn,if_pos ⟨rfl,by decide⟩,k.2.2.1]
  ·show ack kFn (e.evs++[_]) t=0
   rw [ab7,adn,if_neg (by intro h; have:=h.2; revert this; decide),k.2.2.2]
theorem aC5 (hd:DecOk c) (hl:(e.m.cells.length:Int)=aaL c) (ht:TOk c t):Lw c e (e.pt k (aa8 (aap c) t) 1) (l,.q t) (l,.n):=by
 refine aC8 (s0:=fun m =>.acc m) (s:=fun m =>.ready) ht (au8 hd ht) (fun a m la hT hS hJ hw hh hp =>?_) (fun m m' k =>(Option.some.inj k).symm) (fun m u k =>by cases k) (fun m k =>by cases k) (fun m k =>by cases k) (fun m k =>k.elim) (fun k =>k)
  (fun m k =>⟨aoR hd hl ht,k.2.2.1,k.2.2.2⟩) (fun m hn q x hx =>.inr ⟨fun k =>(by have:=q (k▸hx); cases this),hx⟩) (fun m hn _ =>hn) (fun m m' k =>by cases k) (fun x hx k =>by cases k) fun a m la hT hJ hw hh hp e0 =>trivial
 have:=la.ph m
 rw [hp] at this
 exact this.2
theorem ap4 (hd:DecOk c) (hl:(e.m.cells.length:Int)=aaL c) (hL:e.l=aap c) (ht:TOk c t) (hb:acD t e=true) {w:Int}:Lw c e (aeW w t e) (l,.n) (l++[t],.n):=fun m vs hv hh =>by
 have rl:=hh.rl
 have hb2:e.hit (aa8 (aap c) t) 1=true:=by unfold acD at hb; rw [hL] at hb; exact hb
 have hg:Stt c e t=1:=(avm hb2).1
 have hc:e.cas (aa8 (aap c) t) 1 2=e.pt 3 (aa8 (aap c) t) 2:=by
  show e.pt 3 _ (if e.m.gt _=1 then 2 else _)=_
  rw [if_pos hg]
 have rdy:∀ (a:Ab),LA a→a.T=c.tasks→a.S=Stt c e→a.ts t=.ready:=fun a la hT hS =>by
  have:=(la.cl t (okA hT ht)).2.2
  rw [hS,hg] at this
  revert this
  cases a.ts t<;>intro this<;>first | rfl | exact absurd this.1 (by decide)
 have main:∀ {e':EnvP},Of1 c e e' t→Stt c e' t=2→rcw e' t=rcw e t→rcs e' t=true→ack kKn e'.evs t=ack kKn e.evs t→ack kSn e'.evs t=(if rcs e t=true then ack kSn e.evs t else ack kSn e.evs t+1)→ack kFn e'.evs t=ack kFn e.evs t→Lw c e e' (l,.n) (l++[t],.n):=fun {e'} o h1 h2 h3 h4 h5 h6 =>by
  refine aC8 (s0:=fun m =>.ready) (s:=fun m =>.run m) ht o (fun a m la hT hS hJ hw hh hp =>rdy a la hT hS) (fun m m' k =>by cases k) (fun m u k =>by cases k) (fun m k =>by cases k) (fun m k =>by cases k) (fun m k =>k.elim) (fun k =>?_)
   (fun m k =>⟨h1,h3,by rw [h4]; exact k.2.1,by rw [h6]; exact k.2.2⟩) (fun m hn q x hx =>?_) (fun m hn q =>?_) (fun m m' k =>by cases k) (fun x hx k =>by cases k) fun a m la hT hJ hw hh hp e0 =>trivial
  ·rw [h5,h3,if_pos rfl]
   split
   ·rename_i k2; rw [if_pos k2] at k; exact k
   ·rename_i k2; rw [if_neg k2] at k; omega
  ·rcases List.mem_append.1 hx with hx | hx
   ·exact .inr ⟨fun k =>(by have:=q (k▸hx); cases this),hx⟩
   ·exact .inl ⟨List.mem_singleton.1 hx,rfl⟩
  ·exact List.nodup_append.2 ⟨hn,by simp,fun a ha b hb k =>by
    rw [List.mem_singleton.1 hb] at k
    have:=q (k▸ha)
    cases this⟩
 refine main ?_ ?_ ?_ ?_ ?_ ?_ ?_ m vs hv hh<;>unfold aeW<;>rw [if_pos hb,hL,hc]
 ·split
  ·exact (au8 hd ht).em (.inl rfl)
  ·exact ((au8 hd ht).pr ht).em (.inl rfl)
 ·split
  ·exact aoR hd hl ht
  ·exact aoR hd hl ht
 ·split
  ·rfl
  ·show (if 0≤t then ((e.pt 3 (aa8 (aap c) t) 2).pr t _).rc t |>.waiting else -1)=_
   rw [akm (e:=e.pt 3 (aa8 (aap c) t) 2) ht rl]; rfl
 ·split
  ·rename_i k
   show (if 0≤t then (e.rc t).started else false)=true
   rw [if_pos ht.1]; exact k
  ·show (if 0≤t then ((e.pt 3 (aa8 (aap c) t) 2).pr t _).rc t |>.started else false)=true
   rw [if_pos ht.1,akm (e:=e.pt 3 (aa8 (aap c) t) 2) ht rl]
 ·split
  ·show ack kKn (e.evs++[_]) t=_
   rw [ab7,adn,if_neg (by intro h; have:=h.2; revert this; decide),Nat.add_zero]
  ·show ack kKn (e.evs++[_]) t=_
   rw [ab7,adn,if_neg (by intro h; have:=h.2; revert this; decide),Nat.add_zero]
 ·have hr:rcs e t=(e.rc t).started:=if_pos ht.1
  rw [hr]
  split
  ·show ack kSn (e.evs++[_]) t=_
   rw [ab7,adn,if_neg (by intro h; have:=h.2; revert this; decide),Nat.add_zero]
  ·show ack kSn (e.evs++[_]) t=_
   rw [ab7,adn,if_pos ⟨rfl,by decide⟩]
 ·split
  ·show ack kFn (e.evs++[_]) t=_
   rw [ab7,adn,if_neg (by intro h; have:=h.2; revert this; decide),Nat.add_zero]
  ·show ack kFn (e.evs++[_]) t=_
   rw [ab7,adn,if_neg (by intro h; have:=h.2; revert this; decide),Nat.add_zero]
theorem ap3 (hd:DecOk c) (hL:e.l=aap c) (hb:¬ acD t e=true) {w:Int}:Qs c e (aeW w t e):=by
 have hb2:¬ e.hit (aa8 (aap c) t) 1=true:=by unfold acD at hb; rw [hL] at hb; exact hb
 have g:∀ a,(e.cas (aa8 (aap c) t) 1 2).gt a=e.gt a:=fun a =>by rw [ao4,if_neg (fun k =>hb2 k.1)]
 unfold aeW
 rw [if_neg hb,hL]
 exact Qs.em (e':=e.cas (aa8 (aap c) t) 1 2) ⟨fun t =>g _,fun t =>g _,fun t =>g _,g _,rfl,[],by show e.evs=_; simp,fun x hx =>by cases hx⟩ (by omega)
theorem aAN (hd:DecOk c) (hl:(e.m.cells.length:Int)=aaL c) (hN:0≤e.gt 0∧e.gt 0≤1000000) (ht:c.tasks≤e.gt 0):Lw c e (abr e) v v:=fun m vs hv h =>by
 obtain ⟨rl,ts,la⟩:=h
 have:=la.next (n:=e.gt 0+1) (by show e.gt 0≤_; omega) ht
 rw [ahD hv]
 refine ⟨rl,ts,?_⟩
 have z0:∀ {t f:Int},0≤f∧f<5→f≠1→(abr e).gt (ac0 (aap c) t f)=e.gt (ac0 (aap c) t f):=fun {t f} hf hf1 =>by
  show (e.pt 6 0 _).gt _=_
  rw [aio,if_neg]
  intro k
  have:=aur hd (t:=t) hf hf1 (by omega)
  rw [k.1,ae4] at this
  omega
 have e0:(abr e).gt 0=e.gt 0+1:=by
  have:=aeR hd
  have h4:=hd.h
  have h5:=hd.t
  show (e.pt 6 0 _).gt 0=_
  rw [aio,if_pos ⟨rfl,Int.le_refl 0,by rw [hl]; unfold aaL; omega⟩,afo (by omega)]
 have e4:ai5 c (abr e) ts vs={ ai5 c e ts vs with N:=e.gt 0+1 }:=by
  unfold ai5
  rw [e0,show Stt c (abr e)=Stt c e from funext fun t =>z0 (f:=0) (by omega) (by omega),show Jo c (abr e)=Jo c e from funext fun t =>z0 (f:=2) (by omega) (by omega)]
  rfl
 rw [e4]; exact this
theorem ayG (hd:DecOk c) (hl:(e.m.cells.length:Int)=aaL c) (hN:0≤e.gt 0∧e.gt 0≤1000000) (ht:e.gt 0<c.tasks) {p q:Int}:Lw c e ((abr e).pr (e.gt 0) (ay1 p q)) (l,.n) (l,.p (e.gt 0)):=fun m vs hv h =>by
 obtain ⟨rl,ts,la⟩:=h
 have h1:(ai5 c e ts vs).hd m=l:=by show (vs m).1=_; rw [hv]
 have h2:(ai5 c e ts vs).ph m=.n:=by show (vs m).2=_; rw [hv]
 have:=la.alloc (m:=m) ht (l:=l) (fun x hx =>by rw [h1]; exact hx) (by have:=la.nd m; rw [h1] at this; exact this) h2
 have z0:∀ {t f:Int},0≤f∧f<5→f≠1→(abr e).gt (ac0 (aap c) t f)=e.gt (ac0 (aap c) t f):=fun {t f} hf hf1 =>by
  show (e.pt 6 0 _).gt _=_
  rw [aio,if_neg]
  intro k
  have:=aur hd (t:=t) hf hf1 (by omega)
  rw [k.1,ae4] at this
  omega
 have e0:(abr e).gt 0=e.gt 0+1:=by
  have:=aeR hd
  have h4:=hd.h
  have h5:=hd.t
  show (e.pt 6 0 _).gt 0=_
  rw [aio,if_pos ⟨rfl,Int.le_refl 0,by rw [hl]; unfold aaL; omega⟩,afo (by omega)]
 have tk:TOk c (e.gt 0):=⟨hN.1,ht⟩
 have r1:rcw ((abr e).pr (e.gt 0) (ay1 p q))=upd (rcw e) (e.gt 0) (-1):=funext fun x =>by
  by_cases hx:x=e.gt 0
  ·rw [hx,abk]
   show (if 0≤e.gt 0 then (((abr e).pr (e.gt 0) (ay1 p q)).rc (e.gt 0)).waiting else -1)=-1
   rw [if_pos hN.1,akm (e:=abr e) tk rl]; rfl
  ·rw [abd hx]; unfold rcw
   split
   ·rename_i h0; rw [aoT hN.1 hx h0]; rfl
   ·rfl
 have r2:rcs ((abr e).pr (e.gt 0) (ay1 p q))=upd (rcs e) (e.gt 0) false:=funext fun x =>by
  by_cases hx:x=e.gt 0
  ·rw [hx,abk]
   show (if 0≤e.gt 0 then (((abr e).pr (e.gt 0) (ay1 p q)).rc (e.gt 0)).started else false)=false
   rw [if_pos hN.1,akm (e:=abr e) tk rl]; rfl
  ·rw [abd hx]; unfold rcs
   split
   ·rename_i h0; rw [aoT hN.1 hx h0]; rfl
   ·rfl
 refine ⟨by show ((e.recs.set _ _).length:Int)=_; rw [List.length_set]; exact rl,upd ts (e.gt 0) (.alloc m),?_⟩
 rw [axc]
 have e4:({ ai5 c ((abr e).pr (e.gt 0) (ay1 p q)) (upd ts (e.gt 0) (.alloc m)) vs with hd:=ahX (fun m =>(vs m).1) m (l,Ph.p (e.gt 0)).1,ph:=ahX (fun m =>(vs m).2) m (l,Ph.p (e.gt 0)).2 }:Ab)={ ai5 c e ts vs with N:=e.gt 0+1,st:=upd (rcs e) (e.gt 0) false,wa:=upd (rcw e) (e.gt 0) (-1),ts:=upd ts (e.gt 0) (.alloc m),hd:=ahX (fun m =>(vs m).1) m l,ph:=ahX (fun m =>(vs m).2) m (.p (e.gt 0)) }:=by
  unfold ai5
  rw [r1,r2,show ((abr e).pr (e.gt 0) (ay1 p q)).gt 0=e.gt 0+1 from e0,show Stt c ((abr e).pr (e.gt 0) (ay1 p q))=Stt c e from funext fun t =>z0 (f:=0) (by omega) (by omega),show Jo c ((abr e).pr (e.gt 0) (ay1 p q))=Jo c e from funext fun t =>z0 (f:=2) (by omega) (by omega)]
  rfl
 rw [e4]; exact this
end
end
end
end Go.Proofs.YteapeojalliebaaGreat
