/- Levels and waits: a worker and the client. Levels and waits: an engine between its entries. An engine's loops,for any invariant of its machines. An engine's loops,for any invariant of its machines and every number of workers. InheritEngine by names. InheritEngine by names. InheritEngine by names. InheritEngine by names. InheritEngine: what it asks of the cells; its entries. -/
import Derived.Test.YteapeojalliebaaGreatIzar
import Derived.Test.YteapeojalliebaaGreatIzap
import Derived.Test.YteapeojalliebaaGreatIzaq
set_option linter.all false
namespace Go.Proofs.YteapeojalliebaaGreat
section
open Go Go.RowKit
set_option maxRecDepth 100000
variable [Tb]
section
variable {c:Cfg} {e e':EnvP} {w:Int} {v v':Vw} {i i':Iv}
def ao9 (l:List Ev) (t:Int):SweepS→Prop
 | .l2 =>anE l t
 | .l3 =>anE l t
 | .l4 _ =>anE l t
 | _ =>True
theorem aFv {t:Int} (h:MI c e) (hx:HXw c e v) (ht:TOk c t) (s:SweepS) (hs:arO c s) (hX:ao9 e.evs t s):Bo c e (aa4 w t e s).2∧(aa4 w t e s).1.Q (ao9 (aa4 w t e s).2.evs t) fun _ _ =>True:=by
 have ite:∀ {P:Prop} [Decidable P] {a b:Rs SweepS} {l:List Ev},(P→a.Q (ao9 l t) fun _ _ =>True)→(¬ P→b.Q (ao9 l t) fun _ _ =>True)→(if P then a else b).Q (ao9 l t) fun _ _ =>True:=fun h1 h2 =>by
  split
  ·exact h1 ‹_›
  ·exact h2 ‹_›
 have hl:=h.d.l
 cases s with
 | l1 =>
  simp only [aa4]
  rw [h.l]
  split
  ·exact ⟨aeY rfl,trivial⟩
  ·exact ⟨aeY rfl,ite (fun k =>hx.sa t ht k) fun _ =>trivial⟩
 | l2 =>
  simp only [aa4]
  exact ⟨aeY rfl,ite (fun _ =>trivial) fun _ =>hX⟩
 | l3 =>
  simp only [aa4]
  exact ⟨aeY rfl,ite (fun _ =>trivial) fun _ =>hX⟩
 | l4 q =>
  have hs:0≤q∧q+1<c.levels:=hs
  have e1:wu (q+1)=q+1:=afo (by omega)
  have e2:wi (wi q+1)=q+1:=by rw [aaC (x:=q) (aai (by omega)),aaC (aai (by omega))]
  have hX:anE e.evs t:=hX
  simp only [aa4]
  rw [h.l,e1,e2]
  split
  ·rename_i hh
   have R:=asU (k:=12) (w:=w) (o:=0) (v:=q+1) h ht (by omega) (by omega) hh (.inr rfl)
   refine ⟨fun u v' Q =>?_,trivial⟩
   by_cases hu:u=t
   ·rw [hu]; exact hX
   ·have h1:=Q.up
    have h2:=Q.now
    rw [R.ot u hu] at h2
    omega
  ·rename_i hh
   exact ⟨aeY rfl,trivial⟩
 | l5 q =>
  simp only [aa4]
  exact ⟨aeY rfl,trivial⟩
 | l6 q s =>
  have h1:=ajh (w:=w) (v:=wi (wi q+1)) h ht s hs
  simp only [aa4]
  revert h1
  rcases abL w (wi (wi q+1)) t e s with ⟨r,e'⟩
  intro h1
  cases r with
  | go s =>exact ⟨acS h1.1,trivial⟩
  | fin c0 v0 =>
   refine ⟨?_,trivial⟩
   show Bo c e (if c0=3 then e'.em 19 w t 0 _ else e')
   split
   ·exact acS (h1.1.em ht (by omega))
   ·exact acS h1.1
def viW (k:WorkS):Iv:=match k.c with
 | .t7 s =>viR s
 | _ =>.n
def avS (c:Cfg) (l:List Ev) (k:WorkS):Prop:=match k.c with
 | .t1 t s =>ao9 l t s
 | .t7 s =>aHB c l s
 | _ =>True
def auc (c:Cfg) (e:EnvP) (w:Int) (v:Vw) (i:Iv) (o:WorkS×EnvP):Prop:=SX c e o.2 w v (vwW o.1) i (viW o.1)∧avS c o.2.evs o.1
theorem auc.ite {P:Prop} [Decidable P] {a b:WorkS×EnvP} (h1:P→auc c e w v i a) (h2:¬ P→auc c e w v i b):auc c e w v i (if P then a else b):=by
 split
 ·exact h1 ‹_›
 ·exact h2 ‹_›
theorem auc.ite1 {P:Prop} [Decidable P] {a b:WorkS} {e':EnvP} (h1:P→auc c e w v i (a,e')) (h2:¬ P→auc c e w v i (b,e')):auc c e w v i (if P then a else b,e'):=by
 split
 ·exact h1 ‹_›
 ·exact h2 ‹_›
theorem aFm {l:List Ev} {k:WorkS} (hk:avS c l k):avS c l { k with c:=abU w e k }∧viW { k with c:=abU w e k }=viW k:=by
 obtain ⟨a,b,d,x,g⟩:=k
 cases g with
 | top =>
  unfold abU
  simp only
  split
  ·exact ⟨trivial,rfl⟩
  ·exact ⟨trivial,rfl⟩
 | _ =>exact ⟨hk,rfl⟩
theorem aH1 {k:WorkS} (h:MI c e) (hl:(e.m.cells.length:Int)=aaL c) (hrl:(e.recs.length:Int)=c.tasks) (hk:avU c k) (hh:avT k) (hx:HXw c e (vwW k)) (hX:avS c e.evs k):auc c e w (vwW k) (viW k) (acH w e k):=by
 have hB:=(av7 (w:=w) h hk).1
 have hB2:=azq (w:=w) (e:=e) hh
 have hB3:=aFm (w:=w) (e:=e) hX
 have z:∀ {e':EnvP},Qs c e e'→Bo c e e'→SX c e e' w ([],.n) ([],.n) .n .n:=fun h b =>.k0 h b
 have nn:∀ x,((([],Ph.n):Vw)).2≠.p x:=fun x k =>by cases k
 unfold acH
 revert hB hB2 hB3 hx
 generalize abU w e k=kc
 intro hx h1 ⟨h2,h3⟩ ⟨h4,h5⟩
 rw [← h3] at hx ⊢
 rw [← h5]
 cases kc with
 | top =>
  refine ⟨?_,hX⟩
  show SX c e e w _ (vwW k) _ (viW k)
  rw [h3,h5]
  exact ⟨.q _ (fun _ =>rfl) [] (by simp) ail fun _ k =>.inl k,aeY rfl,aon fun _ _ =>rfl⟩
 | t1 t s =>
  have q1:=azB (w:=w) (t:=t) h s h1.2
  have q2:=aFv (w:=w) h hx h1.1 s h1.2 h4
  simp only
  revert q1 q2
  rcases aa4 w t e s with ⟨o,e'⟩
  intro q1 q2
  cases o with
  | go s =>exact ⟨z q1 q2.1,q2.2⟩
  | fin c0 v0 =>exact ⟨z q1 q2.1,trivial⟩
 | t2 s =>
  cases s with
  | pop s =>
   have q1:=aEU (w:=w) h s
   have q2:=(aEy (w:=w) h (.pop s) h1).1
   simp only [alA] at q2 ⊢
   revert q1 q2
   rcases aim w e s with ⟨o,e'⟩
   intro q1 q2
   cases o with
   | go s =>exact ⟨z q1 (acS q2),trivial⟩
   | fin c0 v0 =>
    simp only at q2 ⊢
    by_cases hc:c0=2
    ·rw [if_pos hc]; exact ⟨z q1 (acS q2),trivial⟩
    ·rw [if_neg hc]; exact ⟨z q1 (acS q2),trivial⟩
  | claim t =>
   have g:∀ {v':Vw},(acD t e=true→∀ y,Hd v' y→Hd ([],.n) y∨y=t)→(¬ acD t e=true→∀ y,Hd v' y→Hd ([],.n) y)→SX c e (aeW w t e) w ([],.n) v' .n .n:=fun a b =>.claim h hrl h1 nn a b
   simp only [alA]
   by_cases hb:acD t e=true
   ·rw [if_pos hb]
    exact ⟨g (fun _ y k =>.inr (List.mem_singleton.1 (aCo.1 k))) (fun q =>absurd hb q),trivial⟩
   ·rw [if_neg hb]
    exact ⟨g (fun q =>absurd q hb) fun _ y k =>k,trivial⟩
 | t3 s =>
  have q1:=aBA (w:=w) h s h1
  have q2:=(aBB (w:=w) h s h1).1
  simp only
  revert q1 q2
  rcases abT w e s with ⟨o,e'⟩
  intro q1 q2
  cases o with
  | go s =>exact ⟨z q1 (acS q2),trivial⟩
  | fin c0 v0 =>
   refine .ite1 (fun hc =>⟨z q1 (acS q2),trivial⟩) fun _ =>.ite1 (fun _ =>⟨z q1 (acS q2),trivial⟩) fun _ =>?_
   unfold ay5
   split
   ·exact ⟨z q1 (acS q2),trivial⟩
   ·exact ⟨z q1 (acS q2),trivial⟩
 | t4 s =>
  have q1:=aAi (c:=c) (w:=w) (e:=e) s
  have q2:=aAj (w:=w) h s
  simp only
  revert q1 q2
  rcases akn w e s with ⟨o,e'⟩
  intro q1 q2
  cases o with
  | go s =>exact ⟨z q1 (acS q2),trivial⟩
  | fin c0 v0 =>exact .ite1 (fun hc =>⟨z q1 (acS q2),trivial⟩) fun _ =>⟨z q1 (acS q2),trivial⟩
 | t5 s =>
  have q1:=azE (w:=k.victim) (v:=k.level) h s
  have q2:=azF (w:=k.victim) (v:=k.level) h s h1
  simp only
  rw [h.l]
  revert q1 q2
  rcases aiA (aaz (aap c) k.victim k.level) e s with ⟨o,e'⟩
  intro q1 q2
  cases o with
  | go s =>exact ⟨z q1 (acS q2.1),trivial⟩
  | fin c0 v0 =>exact .ite (fun hc =>⟨z (q1.em (by omega)) (acS (q2.1.em (q2.2 hc) (by omega))),trivial⟩) fun _ =>.ite (fun _ =>⟨z q1 (acS q2.1),trivial⟩) fun _ =>⟨z q1 (acS q2.1),trivial⟩
 | t6 =>
  have h1:TOk c k.x:=h1
  have g:∀ {v':Vw},(acD k.x e=true→∀ y,Hd v' y→Hd ([],.n) y∨y=k.x)→(¬ acD k.x e=true→∀ y,Hd v' y→Hd ([],.n) y)→SX c e (aeW w k.x e) w ([],.n) v' .n .n:=fun a b =>.claim h hrl h1 nn a b
  simp only
  by_cases hb:acD k.x e=true
  ·rw [if_pos hb]
   exact ⟨g (fun _ y k =>.inr (List.mem_singleton.1 (aCo.1 k))) (fun q =>absurd hb q),trivial⟩
  ·rw [if_neg hb]
   exact ⟨g (fun q =>absurd q hb) fun _ y k =>k,trivial⟩
 | t7 s =>
  have:=aKF (w:=w) h hl hrl h1 h2 hx h4
  simp only
  revert this
  rcases aui w e s with ⟨o,e'⟩
  intro this
  cases o with
  | go s =>exact this
  | fin c0 v0 =>exact ⟨this.1,trivial⟩
 | t8 s =>
  have q1:=azN (w:=w) h s
  have q2:=azO (w:=w) h s
  simp only
  revert q1 q2
  rcases agD w e s with ⟨o,e'⟩
  intro q1 q2
  cases o with
  | go s =>exact ⟨z q1 (acS q2),trivial⟩
  | fin c0 v0 =>exact ⟨z q1 (acS q2),trivial⟩
 | t9 s =>
  have q1:=awg (w:=k.victim) (v:=k.level) (a:=k.victim) (b:=k.level) h s
  have q2:=awh (w:=k.victim) (v:=k.level) (a:=k.victim) (b:=k.level) h s
  simp only
  rw [h.l]
  revert q1 q2
  rcases agE (aaK (aap c) k.victim) k.level (aaz (aap c) k.victim k.level) e s with ⟨o,e'⟩
  intro q1 q2
  cases o with
  | go s =>exact ⟨z q1 (acS q2),trivial⟩
  | fin c0 v0 =>exact ⟨z q1 (acS q2),trivial⟩
theorem aJ0 (h:∀ t,Lv c e' t=Lv c e t):Bo c e e':=fun t v q =>by
 have h1:=q.up
 have h2:=q.now
 rw [h] at h2
 omega
theorem SX.c0 (hv1:v.1=[]) (hv:∀ t,¬ Hd v' t) (hw:∀ t,Wt c e' t=Wt c e t) (l:List Ev) (hl:e'.evs=e.evs++l) (hn:∀ x∈l,NoW x) (hb:Bo c e e') (hk:∀ t,0≤t→∀ x∈(e'.rc t).kids,x∈(e.rc t).kids):SX c e e' w v v' .n .n :=
 ⟨.q .n hw l hl hn fun t k =>absurd k (hv t),hb,fun t h0 x hx =>.inl (hk t h0 x hx),fun _ _ =>.inr (.inr hv1)⟩
theorem aIa {k:ClieS}:(vwC k).1=[]∧∀ t,¬ Hd (vwC k) t:=by
 obtain ⟨i,id,acc,g⟩:=k
 cases g<;>exact ⟨rfl,fun t k =>k.elim (fun k =>by cases k) fun k =>k.elim⟩
structure CQ (c:Cfg) (e e':EnvP):Prop where
 w:∀ t,Wt c e' t=Wt c e t
 l:∃ l,e'.evs=e.evs++l∧∀ x∈l,NoW x
 b:Bo c e e'
 k:∀ t,0≤t→∀ x∈(e'.rc t).kids,x∈(e.rc t).kids
theorem CQ.ite {P:Prop} [Decidable P] {a b:Bool×ClieS×EnvP} (h1:P→CQ c e a.2.2) (h2:¬ P→CQ c e b.2.2):CQ c e (if P then a else b).2.2:=by
 split
 ·exact h1 ‹_›
 ·exact h2 ‹_›
theorem aJW {k:ClieS} {me:Int} (h:MI c e) (hrl:(e.recs.length:Int)=c.tasks) (hk:azh c k):CQ c e (anu c.subs me e k).2.2:=by
 have R:∀ {e':EnvP},e'.recs=e.recs→∀ t,0≤t→∀ x∈(e'.rc t).kids,x∈(e.rc t).kids:=fun hr t h0 x hx =>by rw [← afa hr t h0]; exact hx
 have z:∀ {e':EnvP},Qs c e e'→Bo c e e'→CQ c e e':=fun h b =>⟨h.wa,axM h,b,R h.rc⟩
 have a:∀ {e':EnvP} {kd w t o v:Int},Qs c e e'→Bo c e (e'.em kd w t o v)→(kd≠6∧kd≠7∧kd≠9∧kd≠10)→CQ c e (e'.em kd w t o v):=fun {e' kd w t o v} h b hk =>by
  obtain ⟨l,hl,hn⟩:=axM h
  refine ⟨h.wa,⟨l++[⟨kd,w,t,o,v⟩],?_,fun x hx =>?_⟩,b,R h.rc⟩
  ·show e'.evs++_=_
   rw [hl,List.append_assoc]
  ·rcases List.mem_append.1 hx with k | k
   ·exact hn x k
   ·exact akA hk x k
 have hrf:∀ t,0≤t→∀ x∈(e.rc t).kids,x∈(e.rc t).kids:=fun _ _ _ k =>k
 unfold anu
 refine .ite (fun _ =>⟨fun _ =>rfl,⟨[],by simp,ail⟩,aeY rfl,hrf⟩) fun hi =>?_
 obtain ⟨i,id,acc,g⟩:=k
 obtain ⟨h0,h1⟩:=hk
 show CQ c e (abR c.subs me e ⟨i,id,acc,g⟩ (abH c.subs i)).2.2
 cases g with
 | n1 =>exact z (aq6 h) (acS (aq7 h))
 | a1 =>exact z (aq6 h) (acS (aq7 h))
 | n2 =>
  simp only [abR]
  exact .ite (fun _ =>a .lk (ajS rfl (by omega)) (by omega)) fun _ =>z .lk (aeY rfl)
 | n3 =>
  simp only [abR]
  refine .ite (fun hn =>?_) fun hn =>⟨ap9 h.d,⟨_,rfl,akA (by omega)⟩,ajS rfl (by omega),hrf⟩
  have hn:TOk c (wi (e.gt 0)):=by unfold IsT at hn; rw [h.cc] at hn; exact hn
  refine ⟨ap9 h.d,⟨[],by show e.evs=_; simp,ail⟩,aeY rfl,fun t h0 x hx =>?_⟩
  replace hx:x∈(((abr e).pr (wi (e.gt 0)) (ay1 (abH c.subs i).prog (-1))).rc t).kids:=hx
  by_cases ht:t=wi (e.gt 0)
  ·rw [ht,akm (e:=abr e) hn hrl] at hx; cases hx
  ·rw [aoT hn.1 ht h0] at hx; exact hx
 | n4 =>
  simp only [abR]
  rw [h.l]
  exact z (.wr h.d (ahm h.d)) (aeY rfl)
 | n5 =>
  simp only [abR]
  rw [h.l]
  exact z (.since h.d) (aeY rfl)
 | n6 =>
  have h1:TOk c id:=h1
  have q1:=apQ (d:=(abH c.subs i).deadline) (t:=id) h .l1
  have q2:=(apR (d:=(abH c.subs i).deadline) h h1 .l1 trivial).1
  simp only [abR]
  revert q1 q2
  rcases acy (abH c.subs i).deadline id e .l1 with ⟨o,e'⟩
  intro q1 q2
  cases o with
  | go s =>exact z q1 (acS q2)
  | fin c0 v0 =>exact .ite (fun _ =>a q1 (aJ0 fun t =>q2.lv t) (by omega)) fun _ =>z q1 (acS q2)
 | a6 s =>
  have h2:TOk c id:=h1.1
  have q1:=apQ (d:=(abH c.subs i).deadline) (t:=id) h s
  have q2:=(apR (d:=(abH c.subs i).deadline) h h2 s h1.2).1
  simp only [abR]
  revert q1 q2
  rcases acy (abH c.subs i).deadline id e s with ⟨o,e'⟩
  intro q1 q2
  cases o with
  | go s =>exact z q1 (acS q2)
  | fin c0 v0 =>exact .ite (fun _ =>a q1 (aJ0 fun t =>q2.lv t) (by omega)) fun _ =>z q1 (acS q2)
 | n7 =>
  simp only [abR]
  rw [h.l]
  exact ⟨aFH h.d,⟨[],by show e.evs=_; simp,ail⟩,aeY rfl,hrf⟩
 | n8 =>
  simp only [abR]
  exact .ite (fun _ =>z (avp h) (acS (avq h))) fun _ =>z (avp h) (acS (avq h))
 | n9 =>
  have q1:=amq (w:=me) (v:=(abH c.subs i).level) h (.l1 0)
  have q2:=amr (w:=me) (v:=(abH c.subs i).level) h (.l1 0)
  simp only [abR]
  revert q1 q2
  rcases aej me (abH c.subs i).level e (.l1 0) with ⟨o,e'⟩
  intro q1 q2
  cases o with
  | go s =>exact z q1 (acS q2)
  | fin c0 v0 =>exact z q1 (acS q2)
 | a9 t =>
  have q1:=amq (w:=me) (v:=(abH c.subs i).level) h t
  have q2:=amr (w:=me) (v:=(abH c.subs i).level) h t
  simp only [abR]
  revert q1 q2
  rcases aej me (abH c.subs i).level e t with ⟨o,e'⟩
  intro q1 q2
  cases o with
  | go s =>exact z q1 (acS q2)
  | fin c0 v0 =>exact z q1 (acS q2)
theorem aJT {k:ClieS} {me:Int} (h:MI c e) (hrl:(e.recs.length:Int)=c.tasks) (hk:azh c k):SX c e (anu c.subs me e k).2.2 w (vwC k) (vwC (anu c.subs me e k).2.1) .n .n:=by
 obtain ⟨g1,⟨l,g2,g3⟩,g4,g5⟩:=aJW (me:=me) h hrl hk
 exact .c0 aIa.1 aIa.2 g1 l g2 g3 g4 g5
theorem aLG {k:WorkS} {t v:Int} {b:Bool} (h:aHH k=some (t,v,b)):(vwW k).2=.p t:=by
 obtain ⟨vi,lv,cu,x,g⟩:=k
 cases g with
 | t7 s =>
  replace h:aEL s=some (t,v,b):=h
  show (vwR s).2=.p t
  obtain ⟨stack,id,child,level,waiter,k⟩:=s
  cases k with
  | s2 s =>cases s<;>(cases h; rfl)
  | f4 s =>cases s<;>cases h
  | _ =>cases h
 | _ =>cases h
theorem aLI {k:WorkS} {t u:Int} (hk:avT k) (h:viW k=.j2 t u):Hd (vwW k) t:=by
 obtain ⟨vi,lv,cu,x,g⟩:=k
 cases g with
 | t7 s =>
  replace h:viR s=.j2 t u:=h
  show Hd (vwR s) t
  obtain ⟨stack,id,child,level,waiter,k⟩:=s
  cases k with
  | j2 =>cases h; exact .inr rfl
  | j3 =>cases h; exact .inr rfl
  | f4 s =>cases s<;>cases h
  | _ =>cases h
 | _ =>cases h
theorem aLH {subs:List Sub} {k:ClieS} {t v:Int} {b:Bool} (h:aKa subs k=some (t,v,b)):(vwC k).2=.p t:=by
 obtain ⟨i,id,acc,g⟩:=k
 cases g<;>first | (cases h; rfl) | cases h
theorem avS.up {k:WorkS} (h:avS c e.evs k) {l:List Ev} (hl:e'.evs=e.evs++l):avS c e'.evs k:=by
 obtain ⟨vi,lv,cu,x,g⟩:=k
 cases g with
 | t1 t s =>
  replace h:ao9 e.evs t s:=h
  show ao9 e'.evs t s
  have u:anE e.evs t→anE e'.evs t:=fun k =>by rw [hl]; exact aua k
  cases s<;>first | exact u h | trivial
 | t7 s =>
  replace h:aHB c e.evs s:=h
  show aHB c e'.evs s
  obtain ⟨stack,id,child,level,waiter,k⟩:=s
  cases k with
  | j2 =>exact Kn.up h hl
  | j3 =>exact Kn.up h hl
  | j4 =>exact ⟨h.1.up hl,h.2.up hl⟩
  | j5 s =>exact ⟨h.1.up hl,h.2.1,h.2.2.up hl⟩
  | _ =>trivial
 | _ =>trivial
end
structure DX (c:Cfg) (N:Nat) (e:EnvP) (vs:Nat→Vw) (pub:Nat→ak8) (xs:Nat→Iv):Prop where
 d:DL c N e vs
 x:XI c e vs pub xs
def WX (c:Cfg) (N:Nat) (e:EnvP) (j:Int) (w:WorkerV MV) (v:Vw) (p:ak8) (i:Iv):Prop:=∃ k,w=ai6 (aap c) j k∧ai4 (1+3*N) (mnC c) k∧avU c k∧avT k∧avS c e.evs k∧vwW k=v∧aHH k=p∧viW k=i
def CX (c:Cfg) (l:ClientV MV) (v:Vw) (p:ak8):Prop:=∃ k,l=atZ c.subs c.workers k∧azh c k∧vwC k=v∧aKa c.subs k=p
def XJ (c:Cfg) (N:Nat) (e:EnvP) (ws:List (WorkerV MV)) (cl:ClientV MV):Prop :=
 ∃ vs pub xs,DX c N e vs pub xs∧(∀ (j:Nat) w,ws[j]?=some w→WX c N e j w (vs j) (pub j) (xs j))∧CX c cl (vs ws.length) (pub ws.length)∧xs ws.length=.n
section
variable {c:Cfg} {N:Nat} {e e':EnvP} {vs:Nat→Vw} {pub:Nat→ak8} {xs:Nat→Iv} {w:WorkerV MV} {l:ClientV MV} {v:Vw} {p:ak8} {i:Iv}
theorem WX.next {j:Int} (hw:WX c N e j w v p i) {l:List Ev} (hl:e'.evs=e.evs++l):WX c (N+1) e' j w v p i:=by
 obtain ⟨k,h1,h2,h3,h4,h5,h6⟩:=hw
 exact ⟨k,h1,h2.up (by omega),h3,h4,h5.up hl,h6⟩
theorem XI.clk {k:ClkV} (h:XI c e vs pub xs):XI c { e with k:=k } vs pub xs:=by
 obtain ⟨⟨a1,a2,a3⟩,h2,h3,h4,h5,h6,⟨U,g1,g2,g3,g4⟩,h8,h9⟩:=h
 exact ⟨⟨a1,a2,a3⟩,h2,h3,h4,h5,h6,⟨U,g1,g2,g3,g4⟩,h8,h9⟩
theorem aoK:EngI c (XJ c) where
 w {N e ws cl j w} h hN hj:=by
  obtain ⟨vs,pub,xs,⟨h1,hx⟩,h2,h3,h3x⟩:=h
  have hl:=aE6 hj
  obtain ⟨k,rfl,hk,hg,hh,hX,hv,hp,hi⟩:=h2 j w hj
  have h0:=h1.m.p 0
  have hnx:=h1.nx
  have hk':=hk
  rw [← h1.ei.many] at hk'
  have s1:=aCu (w:=(j:Int)) h1.ei.ok (by omega) k hk'
  have s2:=aFl (w:=(j:Int)) h1.ei.ok k
  have s3:=aFk (w:=(j:Int)) h1.ei.ok k hk' (by omega)
  have s4:=aH2 (w:=(j:Int)) h1.m h1.n hg
  have s5:=aH3 (w:=(j:Int)) h1.m h1.n ⟨h0,by omega⟩ h1.li.rl hg hh
  have s6:=aH1 (w:=(j:Int)) h1.m h1.n h1.li.rl hg hh (by rw [hv]; exact hx.hx h1.li) hX
  rw [h1.ei.many] at s3
  rw [h1.ei.l] at s1
  rw [hp] at s4
  rw [hv] at s5
  rw [hv,hi] at s6
  have hlp:=fun t v b =>aLG (k:=(acH (j:Int) e k).1) (t:=t) (v:=v) (b:=b)
  have hlj:=fun t u =>aLI (k:=(acH (j:Int) e k).1) (t:=t) (u:=u) s5.2
  obtain ⟨l,hel⟩:=s4.1.evs
  refine ⟨_,s1,⟨_,_,_,⟨h1.stp hN s2 s4.1 s5.1,hx.step (m:=j) h1.m h1.li s4.1 s6.1.r s6.1.b s6.1.k hlp hlj⟩,fun i u hu =>?_,?_,?_⟩,s4.1.evs⟩
  ·by_cases hij:i=j
   ·subst hij
    rw [List.getElem?_set_self hl] at hu
    rw [aay,aay,aay,← Option.some.inj hu]
    exact ⟨_,rfl,s3.up (by omega),s4.2,s5.2,s6.2,rfl,rfl,rfl⟩
   ·rw [List.getElem?_set_ne (fun k =>hij k.symm)] at hu
    rw [abm hij,abm hij,abm hij]
    exact (h2 i u hu).next hel
  ·rw [List.length_set,abm (by omega),abm (by omega)]; exact h3
  ·rw [List.length_set,abm (by omega)]; exact h3x
 c {N e ws cl} h hN:=by
  obtain ⟨vs,pub,xs,⟨h1,hx⟩,h2,h3,h3x⟩:=h
  obtain ⟨k,rfl,hk,hv,hp⟩:=h3
  have h0:=h1.m.p 0
  have hnx:=h1.nx
  have s1:=aEi (subs:=c.subs) (me:=c.workers) h1.ei.ok (by omega) k hk.1
  have s2:=aHv (subs:=c.subs) (me:=c.workers) h1.ei.ok k
  have s4:=aJU (me:=c.workers) h1.m h1.n hk
  have s5:=aJV (me:=c.workers) h1.m h1.n ⟨h0,by omega⟩ h1.li.rl hk
  have s6:=aJT (w:=((ws.length:Nat):Int)) (me:=c.workers) h1.m h1.li.rl hk
  rw [hp] at s4
  rw [hv] at s5
  rw [hv] at s6
  have hlp:=fun t v b =>aLH (subs:=c.subs) (k:=(anu c.subs c.workers e k).2.1) (t:=t) (v:=v) (b:=b)
  obtain ⟨l,hel⟩:=s4.1.evs
  refine ⟨_,s1,⟨_,_,_,⟨h1.stp hN s2 s4.1 s5,hx.step (m:=ws.length) (i':=.n) h1.m h1.li s4.1 (by rw [h3x]; exact s6.r) s6.b s6.k hlp (fun t u q =>by cases q)⟩,fun i u hu =>?_,?_,?_⟩,s4.1.evs⟩
  ·have:=aE6 hu
   rw [abm (by omega),abm (by omega),abm (by omega)]; exact (h2 i u hu).next hel
  ·rw [aay,aay]; exact ⟨_,rfl,s4.2,rfl,rfl⟩
  ·exact aay
 n {N e ws cl} h:=by
  obtain ⟨vs,pub,xs,h1,h2,h3⟩:=h
  exact ⟨vs,pub,xs,⟨h1.d.next,h1.x⟩,fun i u hu =>(h2 i u hu).next (l:=[]) (by simp),h3⟩
 k {N e ws cl k} h:=by
  obtain ⟨vs,pub,xs,h1,h2,h3⟩:=h
  exact ⟨vs,pub,xs,⟨h1.d.clk,h1.x.clk⟩,h2,h3⟩
 ev {N e ws cl} h:=by
  obtain ⟨vs,pub,xs,h1,h2,h3⟩:=h
  exact h1.d.ei.ok.ev
theorem axj (h:DecOk c) {ws:List (WorkerV MV)} (hw:∀ (j:Nat) w,ws[j]?=some w→w=ai6 (aap c) j ⟨0,0,0,0,.top⟩):XJ c 0 (anK c) ws (atZ c.subs c.workers ⟨0,0,false,.n1⟩) :=
 ⟨_,_,_,⟨aJO h,aHY (fun t h0 =>by
  by_cases q:t<c.tasks
  ·have:(anK c).rc t=awl:=List.eq_of_mem_replicate (ar2 (α:=RecP) (d:=(dfR 26:TR 26)) ⟨h0,by show t<((List.replicate c.tasks.toNat awl).length:Int); rw [List.length_replicate]; omega⟩)
   rw [this]; rfl
  ·show (((List.replicate c.tasks.toNat awl)[t.toNat]?).getD (dfR 26:TR 26)).kids=[]
   rw [List.getElem?_eq_none (by rw [List.length_replicate]; omega)]
   show ((dfR 26:TR 26):RecP).kids=[]
   with_unfolding_all rfl) rfl fun t =>asp⟩,fun j w hj =>by rw [hw j w hj]; exact ⟨_,rfl,trivial,trivial,trivial,trivial,rfl,rfl,rfl⟩,⟨_,rfl,⟨Int.le_refl 0,trivial⟩,rfl,rfl⟩,rfl⟩
theorem XJ.out {ws:List (WorkerV MV)} (h:XJ c N e ws l):MI c e∧ait c e.evs∧(e.m.cells.length:Int)=aaL c∧∃ pub,LX c e pub:=by
 obtain ⟨vs,pub,xs,h1,_⟩:=h
 exact ⟨h1.d.m,h1.x.go,h1.d.n,pub,h1.x.lx⟩
end
structure EG (N:Nat) (e:EnvP) (g:arR):Prop where
 n:g.1=(N:Int)
 l:g.2.1.length=e.evs.length
 r:∀ s∈g.2.1,0≤s∧s<(N:Int)
 s:g.2.1.Pairwise (·≤·)
theorem aqw {N:Nat} {env:EnvP} {eng:arR} (F:(EnvP×arR×Unit→Option (EnvP×arR×Unit))→EnvP×arR×Unit→Option (EnvP×arR×Unit))
  (hF:∀ self x,F self x=if ((x.2.1.2.1.length:Nat):Int)<((x.1.evs.length:Nat):Int) then
    if (((x.2.1.2.1.length+([x.2.1.1]:List Int).length:Nat)):Int)<1000000000000 then self (x.1,(x.2.1.1,x.2.1.2.1++([x.2.1.1]),x.2.1.2.2.1,x.2.1.2.2.2.1,x.2.1.2.2.2.2.1,x.2.1.2.2.2.2.2.1,()),()) else none
   else some (x.1,(x.2.1.1,x.2.1.2.1,x.2.1.2.2.1,x.2.1.2.2.2.1,x.2.1.2.2.2.2.1,x.2.1.2.2.2.2.2.1,()),()))
  (hn:eng.1=(N:Int)) (h:eng.2.1.length≤env.evs.length) (he:env.evs.length≤999999999) (hr:∀ s∈eng.2.1,0≤s∧s<(N:Int)) (hs:eng.2.1.Pairwise (·≤·)) :
  aaD (lpF F 18446744073709551616 (env,eng,())) fun z =>z.1=env∧z.2.1.1=(N:Int)∧z.2.1.2.1.length=env.evs.length∧(∀ s∈z.2.1.2.1,0≤s∧s<(N:Int)+1)∧z.2.1.2.1.Pairwise (·≤·):=by
 refine abj (fun x =>x.1=env∧x.2.1.1=(N:Int)∧x.2.1.2.1.length≤env.evs.length∧(∀ s∈x.2.1.2.1,0≤s∧s<(N:Int)+1)∧x.2.1.2.1.Pairwise (·≤·)) (fun x =>env.evs.length-x.2.1.2.1.length) (fun self x hx ih =>?_) _ _ ⟨rfl,hn,h,fun s k =>by have:=hr s k; omega,hs⟩ (by show env.evs.length-_<_; omega)
 obtain ⟨e,⟨n,st,a,b,c,d,⟨⟩⟩,⟨⟩⟩:=x
 obtain ⟨h1,h2,h3,h4,h5⟩:=hx
 simp only at h1 h2 h3 h4 h5
 subst h1
 subst h2
 rw [hF]
 refine aaD.ite (fun hlt =>?_) fun hge =>.some_ ⟨rfl,rfl,?_,h4,h5⟩
 ·have hlt:((st.length:Nat):Int)<((e.evs.length:Nat):Int):=hlt
  refine aaD.guard (by simp only [List.length_singleton]; omega) fun _ =>?_
  refine ih _ ⟨rfl,rfl,?_,?_,?_⟩ ?_
  ·show (st++[(N:Int)]).length≤_
   rw [List.length_append,List.length_singleton]
   omega
  ·intro s hs
   rcases List.mem_append.1 hs with k | k
   ·exact h4 s k
   ·have k2:s=(N:Int):=List.mem_singleton.1 k
    omega
  ·show (st++[(N:Int)]).Pairwise (·≤·)
   rw [List.pairwise_append]
   exact ⟨h5,by simp,fun x hx y hy =>by rw [List.mem_singleton.1 hy]; have:=h4 x hx; omega⟩
  ·show e.evs.length-(st++[(N:Int)]).length<e.evs.length-st.length
   rw [List.length_append,List.length_singleton]
   omega
 ·have hge:¬ ((st.length:Nat):Int)<((e.evs.length:Nat):Int):=hge
  show st.length=e.evs.length
  have h3:st.length≤e.evs.length:=h3
  omega
theorem axp {σ:Type} {N:Nat} {c0:Int} {env e0:EnvP} {eng:arR} {self:EnvP→arR→Option σ} {P:σ→Prop}
  (hg:EG N e0 eng) (hev:∃ l,env.evs=e0.evs++l) (he:env.evs.length≤999999999) (hN:N≤1000000)
  (hs:∀ eng':arR,EG (N+1) env (wi (eng'.1+1),eng'.2)→aaD (self env (wi (eng'.1+1),eng'.2.1,eng'.2.2.1,eng'.2.2.2.1,eng'.2.2.2.2.1,eng'.2.2.2.2.2.1,())) P):aaD (ala c0 env eng self) P:=by
 obtain ⟨l,hl⟩:=hev
 have hle:eng.2.1.length≤env.evs.length:=by rw [hg.l,hl,List.length_append]; omega
 have fin:∀ z:EnvP×arR×Unit,(z.1=env∧z.2.1.1=(N:Int)∧z.2.1.2.1.length=env.evs.length∧(∀ s∈z.2.1.2.1,0≤s∧s<(N:Int)+1)∧z.2.1.2.1.Pairwise (·≤·))→aaD (self z.1 (wi (z.2.1.1+1),z.2.1.2.1,z.2.1.2.2.1,z.2.1.2.2.2.1,z.2.1.2.2.2.2.1,z.2.1.2.2.2.2.2.1,())) P:=fun z hz =>by
  obtain ⟨z1,z2,z3,z4,z5⟩:=hz
  rw [z1]
  refine hs z.2.1 ⟨?_,z3,fun s k =>?_,z5⟩
  ·show wi (z.2.1.1+1)=_
   rw [z2,aaC (aai (by omega))]; omega
  ·have:=z4 s k; omega
 unfold ala
 rw [anr,bnd]
 refine aaD.ite (fun _ =>?_) fun _ =>?_
 ·rw [aGR,bnd]
  exact aaD.bind (aqw _ (fun _ _ =>rfl) hg.n (by exact hle) (by exact he) hg.r hg.s) fin
 ·exact aaD.bind (aqw _ (fun _ _ =>rfl) hg.n (by exact hle) (by exact he) hg.r hg.s) fin
def stF (s:Int) (v:Ev):St:=⟨s,v⟩
theorem apX {evs:List Ev} {g:arR} (h1:g.2.1.length=evs.length) (h2:evs.length≤999999999):aaD (lpF (aHN evs) 18446744073709551616 (0,[],g,())) fun z =>z.2.1=List.zipWith stF g.2.1 evs∧z.2.2.1=g:=by
 have hl:(List.zipWith stF g.2.1 evs).length=evs.length:=by rw [List.length_zipWith,h1]; omega
 refine (abj (fun x =>0≤x.1∧x.1≤(evs.length:Int)∧x.2.1=(List.zipWith stF g.2.1 evs).take x.1.toNat∧x.2.2.1=g) (fun x =>((evs.length:Int)-x.1).toNat) (fun self x hx ih =>?_) _ _ ⟨Int.le_refl 0,by show (0:Int)≤_; omega,rfl,rfl⟩ (by show ((evs.length:Int)-0).toNat<_; omega))
 obtain ⟨i,l,g',⟨⟩⟩:=x
 obtain ⟨q1,q2,q3,q4⟩:=hx
 simp only at q1 q2 q3 q4
 subst q4
 have e1:wi (i+1)=i+1:=aaC (aai (by omega))
 unfold aHN
 refine aaD.ite (fun hlt =>?_) fun hge =>.some_ ⟨?_,rfl⟩
 ·have hlt:i<(evs.length:Int):=hlt
  have hll:l.length≤evs.length:=by rw [q3,List.length_take]; omega
  refine .guard ⟨q1,hlt⟩ fun _ =>.guard (by show 0≤i∧i<((g'.2.1.length:Nat):Int); omega) fun _ =>.guard (by simp only [List.length_singleton]; omega) fun _ =>?_
  show aaD (self (wi (i+1),_)) _
  rw [e1]
  refine ih _ ⟨by show 0≤i+1; omega,by show i+1≤_; omega,?_,rfl⟩ (by show (_-(i+1):Int).toNat<(_-i:Int).toNat; omega)
  show l++[_]=_
  have e2:(i+1).toNat=i.toNat+1:=by omega
  have hi:i.toNat<(List.zipWith stF g'.2.1 evs).length:=by omega
  rw [q3,e2,List.take_succ_eq_append_getElem hi,List.getElem_zipWith]
  have k1:ady g'.2.1 i=g'.2.1[i.toNat]'(by omega):=by
   have:=aff (α:=Int) (d:=(dfR 1:TR 1)) (xs:=g'.2.1) (i:=i) ⟨q1,by have h1:g'.2.1.length=evs.length:=h1; have hlt:i<(evs.length:Int):=hlt; omega⟩
   rw [List.getElem?_eq_getElem (by omega)] at this
   exact (Option.some.inj this).symm
  have k2:at4 evs i=evs[i.toNat]'(by omega):=by
   have:=aff (α:=Ev) (d:=(dfR 2:TR 2)) (xs:=evs) (i:=i) ⟨q1,hlt⟩
   rw [List.getElem?_eq_getElem (by omega)] at this
   exact (Option.some.inj this).symm
  show _++[(⟨ady g'.2.1 i,at4 evs i⟩:St)]=_
  rw [k1,k2]; rfl
 ·have hge:¬ i<(evs.length:Int):=hge
  show l=_
  rw [q3,List.take_of_length_le (by omega)]
theorem aIA {b:List Int} (hb:b.length≤1000000):aaD (apK b) fun o =>o.1.1.length≤65536:=by
 unfold apK
 refine aaD.bind (P:=fun z =>z.1.length≤65536) (abj (fun x =>0≤x.2.1∧x.2.1≤(b.length:Int)+2∧x.1.length≤65536) (fun x =>((b.length:Int)+2-x.2.1).toNat) (fun self x ⟨q0,q1,q2⟩ ih =>?_) _ _ ⟨Int.le_refl 0,by show (0:Int)≤(b.length:Int)+2; omega,Nat.zero_le _⟩ (by show ((b.length:Int)+2-0).toNat<_; omega)) fun z hz =>.some_ hz
 have e1:wi (x.2.1+1)=x.2.1+1:=aaC (aai (by omega))
 have e2:wi (x.2.1+2)=x.2.1+2:=aaC (aai (by omega))
 rw [e1,e2]
 refine aaD.ite (fun h1 =>aaD.ite (fun h2 =>.guard (by omega) fun _ =>.guard (by omega) fun _ =>.guard rfl fun _ =>.guard rfl fun _ =>?_) fun _ =>.some_ q2) fun _ =>.some_ q2
 have nx:∀ u:EntV,aaD (self (x.1++[u],x.2.1+2,())) fun z =>z.1.length≤65536:=fun u =>ih _ ⟨by show 0≤x.2.1+2; omega,by show x.2.1+2≤(b.length:Int)+2; omega,by simp; omega⟩ (by show ((b.length:Int)+2-(x.2.1+2)).toNat<((b.length:Int)+2-x.2.1).toNat; omega)
 refine aaD.ite (fun _ =>.guard (by simp; omega) fun _ =>nx _) fun _ =>aaD.ite (fun _ =>.guard (by simp; omega) fun _ =>nx _) fun _ =>.guard (by simp; omega) fun _ =>nx _
theorem ald {b:List Int} {n:Int} (hb:b.length≤1000000) (hn:0≤n):aaD (al9 b n) fun o =>o.1.1.length≤n.toNat:=by
 unfold al9
 refine (aIA hb).bind fun r hr =>aaD.ite (fun h =>.guard (by omega) fun _ =>.some_ (by show (r.1.1.take n.toNat).length≤n.toNat; simp; omega)) fun h =>.some_ (by show r.1.1.length≤n.toNat; omega)
theorem aBy {x k:Int} (hk:1≤k∧k≤1000000):aaD (aec x k) fun o =>0≤o.1.1∧o.1.1<k:=by
 have h1:Int.tmod x k<k ∧ -k<Int.tmod x k:=by
  constructor
  ·exact Int.tmod_lt_of_pos _ (by omega)
  ·have h2:Int.tmod (-x) k<k:=Int.tmod_lt_of_pos _ (by omega)
   rw [Int.neg_tmod] at h2
   omega
 unfold aec
 rw [if_neg (by omega),if_pos (by omega)]
 refine aaD.ite (fun hl =>?_) fun hl =>?_
 ·rw [if_pos (by omega),aaC (aai (by omega))]
  exact .some_ ⟨by show 0≤Int.tmod x k+k; omega,by show Int.tmod x k+k<k; omega⟩
 ·rw [if_pos (by omega)]
  exact .some_ ⟨by show 0≤Int.tmod x k; omega,h1.1⟩
theorem ahQ {l:List Int} {i k:Int} (hl:l.length≤1000000) (hi:0≤i∧i≤1000000) (hk:1≤k∧k≤1000000):aaD (aaR l i k) fun o =>0≤o.1.1∧o.1.1<k:=by
 unfold aaR
 refine aaD.ite (fun h =>.some_ ⟨Int.le_refl 0,by show (0:Int)<k; omega⟩) fun h =>?_
 have h0:(0:Int)<((l.length:Nat):Int):=by omega
 have h1:=asH (a:=i) (b:=((l.length:Nat):Int)) (by omega) hi.1
 have h2:0≤Int.tdiv i ((l.length:Nat):Int):=Int.tdiv_nonneg hi.1 (by omega)
 have h3:Int.tdiv i ((l.length:Nat):Int)≤1000000:=Int.le_trans (Int.tdiv_le_self _ hi.1) hi.2
 have h4:=asH (a:=Int.tdiv i ((l.length:Nat):Int)) (b:=7) (by decide) h2
 rw [aaC (x:=Int.tdiv i ((l.length:Nat):Int)) (aai (by omega)),aaC (x:=1+Int.tmod (Int.tdiv i ((l.length:Nat):Int)) 7) (aai (by omega))]
 refine .guard (by omega) fun _ =>.guard h1 fun _ =>.guard (by omega) fun _ =>.guard (by omega) fun _ =>?_
 exact (aBy hk).bind fun r hr =>.some_ hr
theorem aoq {l:List EntV} {x:EntV} {i:Int} (hl:l.length≤1000000) (hi:0≤i∧i≤(l.length:Int)):aaD (ab2 l x i) fun o =>o.1.1.length=l.length+1:=by
 have ht:(l.take i.toNat).length=i.toNat:=by rw [List.length_take]; omega
 have hd:(l.drop i.toNat).length=l.length-i.toNat:=by rw [List.length_drop]
 unfold ab2
 refine .guard hi fun _ =>.guard (by rw [ht]; show ((0+i.toNat:Nat):Int)<_; omega) fun _ =>.guard (by simp only [List.nil_append,ht,List.length_singleton]; omega) fun _ =>.guard hi fun _ =>.guard (by simp only [List.nil_append,List.length_append,ht,hd,List.length_singleton]; omega) fun _ =>.some_ ?_
 show ((([]++l.take i.toNat)++[x])++l.drop i.toNat).length=_
 simp only [List.nil_append,List.length_append,ht,hd,List.length_singleton]
 omega
theorem az0 {l:List Int} {a k:Int} (hl:l.length≤1000000) (ha:0≤a∧a≤10000) (hk:1≤k∧k≤100):aaD (aed l a k) fun o =>o.1.1.length≤200:=by
 unfold aed
 refine aaD.bind (P:=fun z =>(z.1.length:Int)=k) (abj (fun x =>0≤x.2.1∧x.2.1≤k∧(x.1.length:Int)=x.2.1) (fun x =>(k-x.2.1).toNat) (fun self x ⟨q0,q1,q2⟩ ih =>?istep) _ _ ⟨Int.le_refl 0,by show (0:Int)≤k; omega,rfl⟩ (by show (k-0).toNat<_; omega)) fun z hz =>?icont
 case istep =>
  have e1:wi (x.2.1+1)=x.2.1+1:=aaC (aai (by omega))
  have e2:wi (a+x.2.1)=a+x.2.1:=aaC (aai (by omega))
  refine aaD.ite (fun hlt =>?_) fun hge =>.some_ (by show (x.1.length:Int)=k; omega)
  rw [e1,e2]
  show aaD ((aaR l (a+x.2.1) (x.2.1+1)).bind _) _
  refine (ahQ hl (by omega) (by omega)).bind fun r hr =>?_
  refine (aoq (by omega) ⟨hr.1,by omega⟩).bind fun s hs =>ih _ ⟨by show 0≤x.2.1+1; omega,by show x.2.1+1≤k; omega,by show (s.1.1.length:Int)=x.2.1+1; omega⟩ (by show (k-(x.2.1+1)).toNat<(k-x.2.1).toNat; omega)
 case icont =>
  have e3:wi (a+k)=a+k:=aaC (aai (by omega))
  have e4:wi (k+1)=k+1:=aaC (aai (by omega))
  have e5:wi (a+k+1)=a+k+1:=aaC (aai (by omega))
  rw [e3,e4]
  refine (ahQ hl (by omega) (by omega)).bind fun r7 h7 =>?_
  refine (aoq (by omega) ⟨h7.1,by omega⟩).bind fun r8 h8 =>?_
  rw [e5]
  refine (ahQ (k:=3) hl (by omega) (by decide)).bind fun r9 h9 =>?_
  refine aaD.bind (P:=fun z =>z.1.length≤200) (abj (fun x =>0≤x.2.1∧x.2.1≤2∧(x.1.length:Int)+x.2.1≤k+3) (fun x =>x.2.1.toNat) (fun self x ⟨q0,q1,q2⟩ ih =>?_) _ _ ⟨h9.1,by show r9.1.1≤2; omega,by show (r8.1.1.length:Int)+r9.1.1≤k+3; omega⟩ (by show r9.1.1.toNat<_; omega)) fun z hz =>.some_ hz
  have e6:wi (a+k+x.2.1)=a+k+x.2.1:=aaC (aai (by omega))
  have e7:wi (a+x.2.1)=a+x.2.1:=aaC (aai (by omega))
  have e8:wi (x.2.1-1)=x.2.1-1:=aaC (aai (by omega))
  have e9:wi (((x.1.length:Nat):Int)+1)=((x.1.length:Nat):Int)+1:=aaC (aai (by omega))
  refine aaD.ite (fun hlt =>?_) fun _ =>.some_ (by show x.1.length≤200; omega)
  rw [e6,e7,e8,e9]
  refine (ahQ hl (by omega) (by omega)).bind fun r13 h13 =>?_
  show aaD ((aaR l (a+x.2.1) (((x.1.length:Nat):Int)+1)).bind _) _
  refine (ahQ hl (by omega) (by omega)).bind fun r15 h15 =>?_
  refine (aoq (by omega) ⟨h15.1,by omega⟩).bind fun r16 h16 =>ih _ ⟨by show 0≤x.2.1-1; omega,by show x.2.1-1≤2; omega,by show (r16.1.1.length:Int)+(x.2.1-1)≤k+3; omega⟩ (by show (x.2.1-1).toNat<x.2.1.toNat; omega)
theorem aJB {c:Cfg} {I:Nat→EnvP→List (WorkerV MV)→ClientV MV→Prop} (hI:EngI c I) {N:Nat} {env:EnvP} {w0:WorkerV MV} {cl:ClientV MV} {eng:arR} {i:Int} {l:List EntV} (h:I N env [w0] cl) (hN:N≤100000) :
  aaD (aqj l (i,env,w0,cl,eng,()) ((env.m.count,()),(env.m,()))) fun z =>I (N+1) z.1 [z.2.1] z.2.2.1∧z.2.2.2.1=eng∧∃ l,z.1.evs=env.evs++l:=by
 unfold aqj
 refine aaD.ite (fun hk =>?_) fun hk =>aaD.ite (fun _ =>?_) fun _ =>aaD.ite (fun _ =>?_) fun _ =>?_
 ·refine (am6 (n:=2) (by decide) hk).bind fun o ho =>?_
  refine aaD.ite (fun _ =>?_) fun n1 =>aaD.ite (fun _ =>?_) fun n0 =>?_
  ·exact (hI.c h hN).bind fun o ho =>.some_ ⟨ho.1,rfl,ho.2⟩
  ·exact (hI.w h hN (j:=0) rfl).bind fun o ho =>.some_ ⟨ho.1,rfl,ho.2⟩
  ·exfalso; have m0:¬ o.1.1=((0:Nat):Int):=n0; have m1:¬ o.1.1=((1:Nat):Int):=n1; omega
 ·exact ⟨_,rfl,hI.n (hI.k h),rfl,[],by simp⟩
 ·exact ⟨_,rfl,hI.n (hI.k h),rfl,[],by simp⟩
 ·exact ⟨_,rfl,hI.n h,rfl,[],by simp⟩
theorem aJx {c:Cfg} {I:Nat→EnvP→List (WorkerV MV)→ClientV MV→Prop} (hI:EngI c I) {N:Nat} {env:EnvP} {w0:WorkerV MV} {cl:ClientV MV} {eng:arR} {l:List EntV} (h:I N env [w0] cl) (hg:EG N env eng) (hN:N+l.length≤100000) :
  aaD (lpF (aqn l) 18446744073709551616 (0,env,w0,cl,eng,())) fun z =>I (N+l.length) z.2.1 [z.2.2.1] z.2.2.2.1∧EG (N+l.length) z.2.1 z.2.2.2.2.1∧∃ m,z.2.1.evs=env.evs++m:=by
 refine abj (fun x =>0≤x.1∧x.1≤(l.length:Int)∧I (N+x.1.toNat) x.2.1 [x.2.2.1] x.2.2.2.1∧EG (N+x.1.toNat) x.2.1 x.2.2.2.2.1∧∃ m,x.2.1.evs=env.evs++m) (fun x =>(l.length:Int).toNat-x.1.toNat) (fun self x hx ih =>?_) _ _ ?init (by show (l.length:Int).toNat-0<_; omega)
 case init =>exact ⟨Int.le_refl 0,by show (0:Int)≤_; omega,h,hg,[],by simp⟩
 obtain ⟨i,en2,w0,cl,eng,⟨⟩⟩:=x
 obtain ⟨q1,q2,h,hg,m0,hm⟩:=hx
 simp only at q1 q2 h hg hm
 unfold aqn
 refine aaD.ite (fun hlt =>?_) fun hge =>.some_ ?iend
 case iend =>
  have hge:¬ i<(l.length:Int):=hge
  have:i.toNat=l.length:=by omega
  rw [this] at h hg
  exact ⟨h,hg,m0,hm⟩
 have hlt:i<(l.length:Int):=hlt
 refine aaD.guard ⟨q1,hlt⟩ fun _ =>?_
 rw [anr,bnd]
 refine (aJB hI (i:=i) (l:=l) (eng:=eng) h (by omega)).bind fun z hz =>?_
 obtain ⟨ze,z0,zc,zg,⟨⟩⟩:=z
 obtain ⟨a3,ag,m1,hm1⟩:=hz
 simp only at a3 ag hm1
 subst ag
 have hev:=hI.ev a3
 refine axp hg ⟨m1,hm1⟩ (by show ze.evs.length≤_; omega) (by omega) fun eng2 he =>?_
 have ei:wi (i+1)=i+1:=aaC (aai (by omega))
 have en:N+i.toNat+1=N+(i+1).toNat:=by omega
 rw [en] at a3 he
 show aaD (self (wi (i+1),ze,z0,zc,_,())) _
 rw [ei]
 exact ih _ ⟨by show 0≤i+1; omega,by show i+1≤_; omega,a3,he,m0++m1,by show ze.evs=_; rw [hm1,hm,List.append_assoc]⟩ (by show _-(i+1).toNat<_-i.toNat; omega)
theorem aJA {c:Cfg} {I:Nat→EnvP→List (WorkerV MV)→ClientV MV→Prop} (hI:EngI c I) {N:Nat} {env:EnvP} {w0 w1:WorkerV MV} {cl:ClientV MV} {eng:arR} {i:Int} {l:List EntV} (h:I N env [w0,w1] cl) (hN:N≤100000) :
  aaD (aqi l (i,env,w0,w1,cl,eng,()) ((env.m.count,()),(env.m,()))) fun z =>I (N+1) z.1 [z.2.1,z.2.2.1] z.2.2.2.1∧z.2.2.2.2.1=eng∧∃ l,z.1.evs=env.evs++l:=by
 unfold aqi
 refine aaD.ite (fun hk =>?_) fun hk =>aaD.ite (fun _ =>?_) fun _ =>aaD.ite (fun _ =>?_) fun _ =>?_
 ·refine (am6 (n:=3) (by decide) hk).bind fun o ho =>?_
  refine aaD.ite (fun _ =>?_) fun n2 =>aaD.ite (fun _ =>?_) fun n1 =>aaD.ite (fun _ =>?_) fun n0 =>?_
  ·exact (hI.c h hN).bind fun o ho =>.some_ ⟨ho.1,rfl,ho.2⟩
  ·exact (hI.w h hN (j:=1) rfl).bind fun o ho =>.some_ ⟨ho.1,rfl,ho.2⟩
  ·exact (hI.w h hN (j:=0) rfl).bind fun o ho =>.some_ ⟨ho.1,rfl,ho.2⟩
  ·exfalso; have m0:¬ o.1.1=((0:Nat):Int):=n0; have m1:¬ o.1.1=((1:Nat):Int):=n1; have m2:¬ o.1.1=((2:Nat):Int):=n2; omega
 ·exact ⟨_,rfl,hI.n (hI.k h),rfl,[],by simp⟩
 ·exact ⟨_,rfl,hI.n (hI.k h),rfl,[],by simp⟩
 ·exact ⟨_,rfl,hI.n h,rfl,[],by simp⟩
theorem aJw {c:Cfg} {I:Nat→EnvP→List (WorkerV MV)→ClientV MV→Prop} (hI:EngI c I) {N:Nat} {env:EnvP} {w0 w1:WorkerV MV} {cl:ClientV MV} {eng:arR} {l:List EntV} (h:I N env [w0,w1] cl) (hg:EG N env eng) (hN:N+l.length≤100000) :
  aaD (lpF (aqm l) 18446744073709551616 (0,env,w0,w1,cl,eng,())) fun z =>I (N+l.length) z.2.1 [z.2.2.1,z.2.2.2.1] z.2.2.2.2.1∧EG (N+l.length) z.2.1 z.2.2.2.2.2.1∧∃ m,z.2.1.evs=env.evs++m:=by
 refine abj (fun x =>0≤x.1∧x.1≤(l.length:Int)∧I (N+x.1.toNat) x.2.1 [x.2.2.1,x.2.2.2.1] x.2.2.2.2.1∧EG (N+x.1.toNat) x.2.1 x.2.2.2.2.2.1∧∃ m,x.2.1.evs=env.evs++m) (fun x =>(l.length:Int).toNat-x.1.toNat) (fun self x hx ih =>?_) _ _ ?init (by show (l.length:Int).toNat-0<_; omega)
 case init =>exact ⟨Int.le_refl 0,by show (0:Int)≤_; omega,h,hg,[],by simp⟩
 obtain ⟨i,en2,w0,w1,cl,eng,⟨⟩⟩:=x
 obtain ⟨q1,q2,h,hg,m0,hm⟩:=hx
 simp only at q1 q2 h hg hm
 unfold aqm
 refine aaD.ite (fun hlt =>?_) fun hge =>.some_ ?iend
 case iend =>
  have hge:¬ i<(l.length:Int):=hge
  have:i.toNat=l.length:=by omega
  rw [this] at h hg
  exact ⟨h,hg,m0,hm⟩
 have hlt:i<(l.length:Int):=hlt
 refine aaD.guard ⟨q1,hlt⟩ fun _ =>?_
 rw [anr,bnd]
 refine (aJA hI (i:=i) (l:=l) (eng:=eng) h (by omega)).bind fun z hz =>?_
 obtain ⟨ze,z0,z1,zc,zg,⟨⟩⟩:=z
 obtain ⟨a3,ag,m1,hm1⟩:=hz
 simp only at a3 ag hm1
 subst ag
 have hev:=hI.ev a3
 refine axp hg ⟨m1,hm1⟩ (by show ze.evs.length≤_; omega) (by omega) fun eng2 he =>?_
 have ei:wi (i+1)=i+1:=aaC (aai (by omega))
 have en:N+i.toNat+1=N+(i+1).toNat:=by omega
 rw [en] at a3 he
 show aaD (self (wi (i+1),ze,z0,z1,zc,_,())) _
 rw [ei]
 exact ih _ ⟨by show 0≤i+1; omega,by show i+1≤_; omega,a3,he,m0++m1,by show ze.evs=_; rw [hm1,hm,List.append_assoc]⟩ (by show _-(i+1).toNat<_-i.toNat; omega)
theorem aJz {c:Cfg} {I:Nat→EnvP→List (WorkerV MV)→ClientV MV→Prop} (hI:EngI c I) {N:Nat} {env:EnvP} {w0 w1 w2:WorkerV MV} {cl:ClientV MV} {eng:arR} {i:Int} {l:List EntV} (h:I N env [w0,w1,w2] cl) (hN:N≤100000) :
  aaD (aqh l (i,env,w0,w1,w2,cl,eng,()) ((env.m.count,()),(env.m,()))) fun z =>I (N+1) z.1 [z.2.1,z.2.2.1,z.2.2.2.1] z.2.2.2.2.1∧z.2.2.2.2.2.1=eng∧∃ l,z.1.evs=env.evs++l:=by
 unfold aqh
 refine aaD.ite (fun hk =>?_) fun hk =>aaD.ite (fun _ =>?_) fun _ =>aaD.ite (fun _ =>?_) fun _ =>?_
 ·refine (am6 (n:=4) (by decide) hk).bind fun o ho =>?_
  refine aaD.ite (fun _ =>?_) fun n3 =>aaD.ite (fun _ =>?_) fun n2 =>aaD.ite (fun _ =>?_) fun n1 =>aaD.ite (fun _ =>?_) fun n0 =>?_
  ·exact (hI.c h hN).bind fun o ho =>.some_ ⟨ho.1,rfl,ho.2⟩
  ·exact (hI.w h hN (j:=2) rfl).bind fun o ho =>.some_ ⟨ho.1,rfl,ho.2⟩
  ·exact (hI.w h hN (j:=1) rfl).bind fun o ho =>.some_ ⟨ho.1,rfl,ho.2⟩
  ·exact (hI.w h hN (j:=0) rfl).bind fun o ho =>.some_ ⟨ho.1,rfl,ho.2⟩
  ·exfalso; have m0:¬ o.1.1=((0:Nat):Int):=n0; have m1:¬ o.1.1=((1:Nat):Int):=n1; have m2:¬ o.1.1=((2:Nat):Int):=n2; have m3:¬ o.1.1=((3:Nat):Int):=n3; omega
 ·exact ⟨_,rfl,hI.n (hI.k h),rfl,[],by simp⟩
 ·exact ⟨_,rfl,hI.n (hI.k h),rfl,[],by simp⟩
 ·exact ⟨_,rfl,hI.n h,rfl,[],by simp⟩
theorem aJv {c:Cfg} {I:Nat→EnvP→List (WorkerV MV)→ClientV MV→Prop} (hI:EngI c I) {N:Nat} {env:EnvP} {w0 w1 w2:WorkerV MV} {cl:ClientV MV} {eng:arR} {l:List EntV} (h:I N env [w0,w1,w2] cl) (hg:EG N env eng) (hN:N+l.length≤100000) :
  aaD (lpF (aql l) 18446744073709551616 (0,env,w0,w1,w2,cl,eng,())) fun z =>I (N+l.length) z.2.1 [z.2.2.1,z.2.2.2.1,z.2.2.2.2.1] z.2.2.2.2.2.1∧EG (N+l.length) z.2.1 z.2.2.2.2.2.2.1∧∃ m,z.2.1.evs=env.evs++m:=by
 refine abj (fun x =>0≤x.1∧x.1≤(l.length:Int)∧I (N+x.1.toNat) x.2.1 [x.2.2.1,x.2.2.2.1,x.2.2.2.2.1] x.2.2.2.2.2.1∧EG (N+x.1.toNat) x.2.1 x.2.2.2.2.2.2.1∧∃ m,x.2.1.evs=env.evs++m) (fun x =>(l.length:Int).toNat-x.1.toNat) (fun self x hx ih =>?_) _ _ ?init (by show (l.length:Int).toNat-0<_; omega)
 case init =>exact ⟨Int.le_refl 0,by show (0:Int)≤_; omega,h,hg,[],by simp⟩
 obtain ⟨i,en2,w0,w1,w2,cl,eng,⟨⟩⟩:=x
 obtain ⟨q1,q2,h,hg,m0,hm⟩:=hx
 simp only at q1 q2 h hg hm
 unfold aql
 refine aaD.ite (fun hlt =>?_) fun hge =>.some_ ?iend
 case iend =>
  have hge:¬ i<(l.length:Int):=hge
  have:i.toNat=l.length:=by omega
  rw [this] at h hg
  exact ⟨h,hg,m0,hm⟩
 have hlt:i<(l.length:Int):=hlt
 refine aaD.guard ⟨q1,hlt⟩ fun _ =>?_
 rw [anr,bnd]
 refine (aJz hI (i:=i) (l:=l) (eng:=eng) h (by omega)).bind fun z hz =>?_
 obtain ⟨ze,z0,z1,z2,zc,zg,⟨⟩⟩:=z
 obtain ⟨a3,ag,m1,hm1⟩:=hz
 simp only at a3 ag hm1
 subst ag
 have hev:=hI.ev a3
 refine axp hg ⟨m1,hm1⟩ (by show ze.evs.length≤_; omega) (by omega) fun eng2 he =>?_
 have ei:wi (i+1)=i+1:=aaC (aai (by omega))
 have en:N+i.toNat+1=N+(i+1).toNat:=by omega
 rw [en] at a3 he
 show aaD (self (wi (i+1),ze,z0,z1,z2,zc,_,())) _
 rw [ei]
 exact ih _ ⟨by show 0≤i+1; omega,by show i+1≤_; omega,a3,he,m0++m1,by show ze.evs=_; rw [hm1,hm,List.append_assoc]⟩ (by show _-(i+1).toNat<_-i.toNat; omega)
theorem aJy {c:Cfg} {I:Nat→EnvP→List (WorkerV MV)→ClientV MV→Prop} (hI:EngI c I) {N:Nat} {env:EnvP} {w0 w1 w2 w3:WorkerV MV} {cl:ClientV MV} {eng:arR} {i:Int} {l:List EntV} (h:I N env [w0,w1,w2,w3] cl) (hN:N≤100000) :
  aaD (aqg l (i,env,w0,w1,w2,w3,cl,eng,()) ((env.m.count,()),(env.m,()))) fun z =>I (N+1) z.1 [z.2.1,z.2.2.1,z.2.2.2.1,z.2.2.2.2.1] z.2.2.2.2.2.1∧z.2.2.2.2.2.2.1=eng∧∃ l,z.1.evs=env.evs++l:=by
 unfold aqg
 refine aaD.ite (fun hk =>?_) fun hk =>aaD.ite (fun _ =>?_) fun _ =>aaD.ite (fun _ =>?_) fun _ =>?_
 ·refine (am6 (n:=5) (by decide) hk).bind fun o ho =>?_
  refine aaD.ite (fun _ =>?_) fun n4 =>aaD.ite (fun _ =>?_) fun n3 =>aaD.ite (fun _ =>?_) fun n2 =>aaD.ite (fun _ =>?_) fun n1 =>aaD.ite (fun _ =>?_) fun n0 =>?_
  ·exact (hI.c h hN).bind fun o ho =>.some_ ⟨ho.1,rfl,ho.2⟩
  ·exact (hI.w h hN (j:=3) rfl).bind fun o ho =>.some_ ⟨ho.1,rfl,ho.2⟩
  ·exact (hI.w h hN (j:=2) rfl).bind fun o ho =>.some_ ⟨ho.1,rfl,ho.2⟩
  ·exact (hI.w h hN (j:=1) rfl).bind fun o ho =>.some_ ⟨ho.1,rfl,ho.2⟩
  ·exact (hI.w h hN (j:=0) rfl).bind fun o ho =>.some_ ⟨ho.1,rfl,ho.2⟩
  ·exfalso; have m0:¬ o.1.1=((0:Nat):Int):=n0; have m1:¬ o.1.1=((1:Nat):Int):=n1; have m2:¬ o.1.1=((2:Nat):Int):=n2; have m3:¬ o.1.1=((3:Nat):Int):=n3; have m4:¬ o.1.1=((4:Nat):Int):=n4; omega
 ·exact ⟨_,rfl,hI.n (hI.k h),rfl,[],by simp⟩
 ·exact ⟨_,rfl,hI.n (hI.k h),rfl,[],by simp⟩
 ·exact ⟨_,rfl,hI.n h,rfl,[],by simp⟩
theorem aJu {c:Cfg} {I:Nat→EnvP→List (WorkerV MV)→ClientV MV→Prop} (hI:EngI c I) {N:Nat} {env:EnvP} {w0 w1 w2 w3:WorkerV MV} {cl:ClientV MV} {eng:arR} {l:List EntV} (h:I N env [w0,w1,w2,w3] cl) (hg:EG N env eng) (hN:N+l.length≤100000) :
  aaD (lpF (aqk l) 18446744073709551616 (0,env,w0,w1,w2,w3,cl,eng,())) fun z =>I (N+l.length) z.2.1 [z.2.2.1,z.2.2.2.1,z.2.2.2.2.1,z.2.2.2.2.2.1] z.2.2.2.2.2.2.1∧EG (N+l.length) z.2.1 z.2.2.2.2.2.2.2.1∧∃ m,z.2.1.evs=env.evs++m:=by
 refine abj (fun x =>0≤x.1∧x.1≤(l.length:Int)∧I (N+x.1.toNat) x.2.1 [x.2.2.1,x.2.2.2.1,x.2.2.2.2.1,x.2.2.2.2.2.1] x.2.2.2.2.2.2.1∧EG (N+x.1.toNat) x.2.1 x.2.2.2.2.2.2.2.1∧∃ m,x.2.1.evs=env.evs++m) (fun x =>(l.length:Int).toNat-x.1.toNat) (fun self x hx ih =>?_) _ _ ?init (by show (l.length:Int).toNat-0<_; omega)
 case init =>exact ⟨Int.le_refl 0,by show (0:Int)≤_; omega,h,hg,[],by simp⟩
 obtain ⟨i,en2,w0,w1,w2,w3,cl,eng,⟨⟩⟩:=x
 obtain ⟨q1,q2,h,hg,m0,hm⟩:=hx
 simp only at q1 q2 h hg hm
 unfold aqk
 refine aaD.ite (fun hlt =>?_) fun hge =>.some_ ?iend
 case iend =>
  have hge:¬ i<(l.length:Int):=hge
  have:i.toNat=l.length:=by omega
  rw [this] at h hg
  exact ⟨h,hg,m0,hm⟩
 have hlt:i<(l.length:Int):=hlt
 refine aaD.guard ⟨q1,hlt⟩ fun _ =>?_
 rw [anr,bnd]
 refine (aJy hI (i:=i) (l:=l) (eng:=eng) h (by omega)).bind fun z hz =>?_
 obtain ⟨ze,z0,z1,z2,z3,zc,zg,⟨⟩⟩:=z
 obtain ⟨a3,ag,m1,hm1⟩:=hz
 simp only at a3 ag hm1
 subst ag
 have hev:=hI.ev a3
 refine axp hg ⟨m1,hm1⟩ (by show ze.evs.length≤_; omega) (by omega) fun eng2 he =>?_
 have ei:wi (i+1)=i+1:=aaC (aai (by omega))
 have en:N+i.toNat+1=N+(i+1).toNat:=by omega
 rw [en] at a3 he
 show aaD (self (wi (i+1),ze,z0,z1,z2,z3,zc,_,())) _
 rw [ei]
 exact ih _ ⟨by show 0≤i+1; omega,by show i+1≤_; omega,a3,he,m0++m1,by show ze.evs=_; rw [hm1,hm,List.append_assoc]⟩ (by show _-(i+1).toNat<_-i.toNat; omega)
noncomputable def aKf (c:Cfg) (y2:List Int) (l:List EntV):Option ((Bool×Unit)×(Unit)) :=
 (lpF (ayQ y2 c) 18446744073709551616 (l,0,())).bind fun s =>
 (afj c).bind fun r9 =>
 if r9.1.2.1≠0 then
 if r9.1.2.1≠0 then
 if (!true)=true then some ((false,()),()) else some ((false,()),())
 else
 if (!true)=true then some ((false,()),()) else some ((false,()),())
 else
 (ahT c).bind fun r12 =>
 if c.workers=((1:Nat):Int) then
 (adX 0).bind fun w0 =>
 (lpF (aqn s.1) 18446744073709551616 (0,r9.1.1,w0.1.1,r12.1.1,(0,[],0,0,0,0,()),())).bind fun z =>
 if (!true)=true then some ((false,()),())
 else
 (lpF (aHN z.2.1.evs) 18446744073709551616 (0,[],z.2.2.2.2.1,())).bind fun v =>
 (amc v.2.1).bind fun h =>
 (ab6 z.2.1.m).bind fun cl =>
 ayK c h.1.1 cl.1.1
 else none
noncomputable def aa7 (y0:List Int) (y1:List Int) (y2:List Int) (y3:Bool):Option ((Bool×Unit)×(Unit)) :=
 (arf y0 ([y2])).bind fun r1 =>
 if (!r1.1.1)=true then some ((true,()),())
 else
 if 800<((y1.length:Nat):Int) then some ((true,()),())
 else
 (agY y0).bind fun r2 =>
 (al9 y1 400).bind fun r3 =>
 if y3=true then
 (abx r2.1.1).bind fun r4 =>
 if (((r4.1.1.length+r3.1.1.length:Nat)):Int)<1000000000000 then
 aKf r2.1.1 y2 (r4.1.1++r3.1.1)
 else none
 else
 aKf r2.1.1 y2 r3.1.1
noncomputable abbrev agw:Con SR1:=⟨3,[.sh (.ro 17),.sh (.ro 17),.sh (.ro 1),.sh .b],[.sh .b],fun x =>aa7 x.1 x.2.1 x.2.2.1 x.2.2.2.1⟩
noncomputable def af2:List (Nat×Func):=[(11,Tryz.f11),(32,Tryz.f32),(64,Tryz.f64),(33,Tryz.f33),(65,Tryz.f65),(14,Tryz.f14),(15,Tryz.f15)]
theorem af3:CO Tryz.prog agw:=ahZ aah Tryz.func3 [ank,aiU,akF,ach,acv,agJ,acg,ahS,ahB,acN,aep,adi,ac9,ad2,aez,adf,akS,acO,ad7,acd,abY,acf,ace] ⟨anj,aiT,aln,acY,ac8,ahn,acX,aid,ah3,adu,ae0,adV,adM,aeE,ae5,adT,alu,adv,aev,acU,acw,acW,acV,trivial⟩ af2 ⟨Tryz.func11,Tryz.func32,Tryz.func64,Tryz.func33,Tryz.func65,Tryz.func14,Tryz.func15,trivial⟩ (fun f =>(get [(32,[(6,.spl 22 [1] 2)]),(64,[(2,.unroll 2)]),(33,[(1,.loop [.rg 8 sI_,.ob 25 27,.ob 39 31,.ob 27 30,.cx 28 [.inr (.ptr 25 0),.inr (.sl 41),.inr (.ptr 27 0),.inr (.sl 67),.inl sI_,.inl (.row 1),.inl sI_,.inl sI_,.inl sU_,.inl sU_]] 18446744073709551616 0),(1,.loop [.rg 8 sI_,.ob 23 27,.ob 37 31,.ob 25 30,.cx 26 [.inr (.ptr 23 0),.inr (.sl 39),.inr (.ptr 25 0),.inr (.sl 65),.inl sI_,.inl (.row 1),.inl sI_,.inl sI_,.inl sU_,.inl sU_]] 18446744073709551616 0)]),(65,[(9,.cut [.ob 25 27,.ob 39 31,.ob 27 30,.cx 28 [.inr (.ptr 25 0),.inr (.sl 41),.inr (.ptr 27 0),.inr (.sl 67),.inl sI_,.inl (.row 1),.inl sI_,.inl sI_,.inl sU_,.inl sU_]] [0,1,2,4,15,16,70,71,72]),(9,.cut [.ob 23 27,.ob 37 31,.ob 25 30,.cx 26 [.inr (.ptr 23 0),.inr (.sl 39),.inr (.ptr 25 0),.inr (.sl 65),.inl sI_,.inl (.row 1),.inl sI_,.inl sI_,.inl sU_,.inl sU_]] [0,1,2,4,15,16,68,69,70]),(12,.loop [.ob 25 27,.cx 28 [.inr (.ptr 25 0),.inr (.sl 41),.inr (.ptr 27 0),.inr (.sl 67),.inl sI_,.inl (.row 1),.inl sI_,.inl sI_,.inl sU_,.inl sU_]] 18446744073709551616 1),(12,.loop [.ob 23 27,.cx 26 [.inr (.ptr 23 0),.inr (.sl 39),.inr (.ptr 25 0),.inr (.sl 65),.inl sI_,.inl (.row 1),.inl sI_,.inl sI_,.inl sU_,.inl sU_]] 18446744073709551616 1)]),(14,[(3,.loop [.rg 14 sI_,.rg 3 (.row 6),.cx 28 [.inr (.ptr 25 0),.inr (.sl 41),.inr (.ptr 27 0),.inr (.sl 67),.inl sI_,.inl (.row 1),.inl sI_,.inl sI_,.inl sU_,.inl sU_]] 18446744073709551616 0),(3,.loop [.rg 14 sI_,.rg 3 (.row 6),.cx 26 [.inr (.ptr 23 0),.inr (.sl 39),.inr (.ptr 25 0),.inr (.sl 65),.inl sI_,.inl (.row 1),.inl sI_,.inl sI_,.inl sU_,.inl sU_]] 18446744073709551616 0)])] f).getD []) [(8,.loop [.rg 10 (.row 5),.rg 11 sI_] 18446744073709551616 0),(21,.loopR [.rg 20 sI_] 18446744073709551616 2)] fun x =>by kernel_rfl
noncomputable def aKe (c:Cfg) (y2:List Int) (l:List EntV):Option ((Bool×Unit)×(Unit)) :=
 (lpF (ayQ y2 c) 18446744073709551616 (l,0,())).bind fun s =>
 (afj c).bind fun r9 =>
 if r9.1.2.1≠0 then
 if r9.1.2.1≠0 then
 if (!true)=true then some ((false,()),()) else some ((false,()),())
 else
 if (!true)=true then some ((false,()),()) else some ((false,()),())
 else
 (ahT c).bind fun r12 =>
 if c.workers=((2:Nat):Int) then
 (adX 0).bind fun w0 =>
 (adX 1).bind fun w1 =>
 (lpF (aqm s.1) 18446744073709551616 (0,r9.1.1,w0.1.1,w1.1.1,r12.1.1,(0,[],0,0,0,0,()),())).bind fun z =>
 if (!true)=true then some ((false,()),())
 else
 (lpF (aHN z.2.1.evs) 18446744073709551616 (0,[],z.2.2.2.2.2.1,())).bind fun v =>
 (amc v.2.1).bind fun h =>
 (ab6 z.2.1.m).bind fun cl =>
 ayK c h.1.1 cl.1.1
 else none
noncomputable def abD (y0:List Int) (y1:List Int) (y2:List Int) (y3:Bool):Option ((Bool×Unit)×(Unit)) :=
 (arf y0 ([y2])).bind fun r1 =>
 if (!r1.1.1)=true then some ((true,()),())
 else
 if 800<((y1.length:Nat):Int) then some ((true,()),())
 else
 (agY y0).bind fun r2 =>
 (al9 y1 400).bind fun r3 =>
 if y3=true then
 (abx r2.1.1).bind fun r4 =>
 if (((r4.1.1.length+r3.1.1.length:Nat)):Int)<1000000000000 then
 aKe r2.1.1 y2 (r4.1.1++r3.1.1)
 else none
 else
 aKe r2.1.1 y2 r3.1.1
noncomputable abbrev agv:Con SR1:=⟨3,[.sh (.ro 17),.sh (.ro 17),.sh (.ro 1),.sh .b],[.sh .b],fun x =>abD x.1 x.2.1 x.2.2.1 x.2.2.2.1⟩
noncomputable def af0:List (Nat×Func):=[(11,Tryz.f11),(32,Tryz.f32),(64,Tryz.f64),(33,Tryz.f33),(65,Tryz.f65),(14,Tryz.f14),(15,Tryz.f15)]
theorem af1:CO Tryz.prog agv:=ahZ aah Tryz.func3 [ank,aiU,akF,ach,acv,agJ,acg,ahS,ahB,acN,aep,adi,ac9,ad2,aez,adf,akS,acO,ad7,acd,abY,acf,ace] ⟨anj,aiT,aln,acY,ac8,ahn,acX,aid,ah3,adu,ae0,adV,adM,aeE,ae5,adT,alu,adv,aev,acU,acw,acW,acV,trivial⟩ af0 ⟨Tryz.func11,Tryz.func32,Tryz.func64,Tryz.func33,Tryz.func65,Tryz.func14,Tryz.func15,trivial⟩ (fun f =>(get [(32,[(6,.spl 22 [2] 3)]),(64,[(2,.unroll 3)]),(33,[(1,.loop [.rg 8 sI_,.ob 25 27,.ob 39 31,.ob 53 31,.ob 27 30,.cx 28 [.inr (.ptr 25 0),.inr (.sl 55),.inr (.ptr 27 0),.inr (.sl 84),.inl sI_,.inl (.row 1),.inl sI_,.inl sI_,.inl sU_,.inl sU_]] 18446744073709551616 0),(1,.loop [.rg 8 sI_,.ob 23 27,.ob 37 31,.ob 51 31,.ob 25 30,.cx 26 [.inr (.ptr 23 0),.inr (.sl 53),.inr (.ptr 25 0),.inr (.sl 82),.inl sI_,.inl (.row 1),.inl sI_,.inl sI_,.inl sU_,.inl sU_]] 18446744073709551616 0)]),(65,[(9,.cut [.ob 25 27,.ob 39 31,.ob 53 31,.ob 27 30,.cx 28 [.inr (.ptr 25 0),.inr (.sl 55),.inr (.ptr 27 0),.inr (.sl 84),.inl sI_,.inl (.row 1),.inl sI_,.inl sI_,.inl sU_,.inl sU_]] [0,1,2,4,15,16,87,88,89]),(9,.cut [.ob 23 27,.ob 37 31,.ob 51 31,.ob 25 30,.cx 26 [.inr (.ptr 23 0),.inr (.sl 53),.inr (.ptr 25 0),.inr (.sl 82),.inl sI_,.inl (.row 1),.inl sI_,.inl sI_,.inl sU_,.inl sU_]] [0,1,2,4,15,16,85,86,87]),(12,.loop [.ob 25 27,.cx 28 [.inr (.ptr 25 0),.inr (.sl 55),.inr (.ptr 27 0),.inr (.sl 84),.inl sI_,.inl (.row 1),.inl sI_,.inl sI_,.inl sU_,.inl sU_]] 18446744073709551616 1),(12,.loop [.ob 23 27,.cx 26 [.inr (.ptr 23 0),.inr (.sl 53),.inr (.ptr 25 0),.inr (.sl 82),.inl sI_,.inl (.row 1),.inl sI_,.inl sI_,.inl sU_,.inl sU_]] 18446744073709551616 1)]),(14,[(3,.loop [.rg 14 sI_,.rg 3 (.row 6),.cx 28 [.inr (.ptr 25 0),.inr (.sl 55),.inr (.ptr 27 0),.inr (.sl 84),.inl sI_,.inl (.row 1),.inl sI_,.inl sI_,.inl sU_,.inl sU_]] 18446744073709551616 0),(3,.loop [.rg 14 sI_,.rg 3 (.row 6),.cx 26 [.inr (.ptr 23 0),.inr (.sl 53),.inr (.ptr 25 0),.inr (.sl 82),.inl sI_,.inl (.row 1),.inl sI_,.inl sI_,.inl sU_,.inl sU_]] 18446744073709551616 0)])] f).getD []) [(8,.loop [.rg 10 (.row 5),.rg 11 sI_] 18446744073709551616 0),(21,.loopR [.rg 20 sI_] 18446744073709551616 2)] fun x =>by kernel_rfl
noncomputable def aKd (c:Cfg) (y2:List Int) (l:List EntV):Option ((Bool×Unit)×(Unit)) :=
 (lpF (ayQ y2 c) 18446744073709551616 (l,0,())).bind fun s =>
 (afj c).bind fun r9 =>
 if r9.1.2.1≠0 then
 if r9.1.2.1≠0 then
 if (!true)=true then some ((false,()),()) else some ((false,()),())
 else
 if (!true)=true then some ((false,()),()) else some ((false,()),())
 else
 (ahT c).bind fun r12 =>
 if c.workers=((3:Nat):Int) then
 (adX 0).bind fun w0 =>
 (adX 1).bind fun w1 =>
 (adX 2).bind fun w2 =>
 (lpF (aql s.1) 18446744073709551616 (0,r9.1.1,w0.1.1,w1.1.1,w2.1.1,r12.1.1,(0,[],0,0,0,0,()),())).bind fun z =>
 if (!true)=true then some ((false,()),())
 else
 (lpF (aHN z.2.1.evs) 18446744073709551616 (0,[],z.2.2.2.2.2.2.1,())).bind fun v =>
 (amc v.2.1).bind fun h =>
 (ab6 z.2.1.m).bind fun cl =>
 ayK c h.1.1 cl.1.1
 else none
noncomputable def abC (y0:List Int) (y1:List Int) (y2:List Int) (y3:Bool):Option ((Bool×Unit)×(Unit)) :=
 (arf y0 ([y2])).bind fun r1 =>
 if (!r1.1.1)=true then some ((true,()),())
 else
 if 800<((y1.length:Nat):Int) then some ((true,()),())
 else
 (agY y0).bind fun r2 =>
 (al9 y1 400).bind fun r3 =>
 if y3=true then
 (abx r2.1.1).bind fun r4 =>
 if (((r4.1.1.length+r3.1.1.length:Nat)):Int)<1000000000000 then
 aKd r2.1.1 y2 (r4.1.1++r3.1.1)
 else none
 else
 aKd r2.1.1 y2 r3.1.1
noncomputable abbrev agu:Con SR1:=⟨3,[.sh (.ro 17),.sh (.ro 17),.sh (.ro 1),.sh .b],[.sh .b],fun x =>abC x.1 x.2.1 x.2.2.1 x.2.2.2.1⟩
noncomputable def afY:List (Nat×Func):=[(11,Tryz.f11),(32,Tryz.f32),(64,Tryz.f64),(33,Tryz.f33),(65,Tryz.f65),(14,Tryz.f14),(15,Tryz.f15)]
theorem afZ:CO Tryz.prog agu:=ahZ aah Tryz.func3 [ank,aiU,akF,ach,acv,agJ,acg,ahS,ahB,acN,aep,adi,ac9,ad2,aez,adf,akS,acO,ad7,acd,abY,acf,ace] ⟨anj,aiT,aln,acY,ac8,ahn,acX,aid,ah3,adu,ae0,adV,adM,aeE,ae5,adT,alu,adv,aev,acU,acw,acW,acV,trivial⟩ afY ⟨Tryz.func11,Tryz.func32,Tryz.func64,Tryz.func33,Tryz.func65,Tryz.func14,Tryz.func15,trivial⟩ (fun f =>(get [(32,[(6,.spl 22 [3] 4)]),(64,[(2,.unroll 4)]),(33,[(1,.loop [.rg 8 sI_,.ob 25 27,.ob 39 31,.ob 53 31,.ob 67 31,.ob 27 30,.cx 28 [.inr (.ptr 25 0),.inr (.sl 69),.inr (.ptr 27 0),.inr (.sl 101),.inl sI_,.inl (.row 1),.inl sI_,.inl sI_,.inl sU_,.inl sU_]] 18446744073709551616 0),(1,.loop [.rg 8 sI_,.ob 23 27,.ob 37 31,.ob 51 31,.ob 65 31,.ob 25 30,.cx 26 [.inr (.ptr 23 0),.inr (.sl 67),.inr (.ptr 25 0),.inr (.sl 99),.inl sI_,.inl (.row 1),.inl sI_,.inl sI_,.inl sU_,.inl sU_]] 18446744073709551616 0)]),(65,[(9,.cut [.ob 25 27,.ob 39 31,.ob 53 31,.ob 67 31,.ob 27 30,.cx 28 [.inr (.ptr 25 0),.inr (.sl 69),.inr (.ptr 27 0),.inr (.sl 101),.inl sI_,.inl (.row 1),.inl sI_,.inl sI_,.inl sU_,.inl sU_]] [0,1,2,4,15,16,104,105,106]),(9,.cut [.ob 23 27,.ob 37 31,.ob 51 31,.ob 65 31,.ob 25 30,.cx 26 [.inr (.ptr 23 0),.inr (.sl 67),.inr (.ptr 25 0),.inr (.sl 99),.inl sI_,.inl (.row 1),.inl sI_,.inl sI_,.inl sU_,.inl sU_]] [0,1,2,4,15,16,102,103,104]),(12,.loop [.ob 25 27,.cx 28 [.inr (.ptr 25 0),.inr (.sl 69),.inr (.ptr 27 0),.inr (.sl 101),.inl sI_,.inl (.row 1),.inl sI_,.inl sI_,.inl sU_,.inl sU_]] 18446744073709551616 1),(12,.loop [.ob 23 27,.cx 26 [.inr (.ptr 23 0),.inr (.sl 67),.inr (.ptr 25 0),.inr (.sl 99),.inl sI_,.inl (.row 1),.inl sI_,.inl sI_,.inl sU_,.inl sU_]] 18446744073709551616 1)]),(14,[(3,.loop [.rg 14 sI_,.rg 3 (.row 6),.cx 28 [.inr (.ptr 25 0),.inr (.sl 69),.inr (.ptr 27 0),.inr (.sl 101),.inl sI_,.inl (.row 1),.inl sI_,.inl sI_,.inl sU_,.inl sU_]] 18446744073709551616 0),(3,.loop [.rg 14 sI_,.rg 3 (.row 6),.cx 26 [.inr (.ptr 23 0),.inr (.sl 67),.inr (.ptr 25 0),.inr (.sl 99),.inl sI_,.inl (.row 1),.inl sI_,.inl sI_,.inl sU_,.inl sU_]] 18446744073709551616 0)])] f).getD []) [(8,.loop [.rg 10 (.row 5),.rg 11 sI_] 18446744073709551616 0),(21,.loopR [.rg 20 sI_] 18446744073709551616 2)] fun x =>by kernel_rfl
noncomputable def aKc (c:Cfg) (y2:List Int) (l:List EntV):Option ((Bool×Unit)×(Unit)) :=
 (lpF (ayQ y2 c) 18446744073709551616 (l,0,())).bind fun s =>
 (afj c).bind fun r9 =>
 if r9.1.2.1≠0 then
 if r9.1.2.1≠0 then
 if (!true)=true then some ((false,()),()) else some ((false,()),())
 else
 if (!true)=true then some ((false,()),()) else some ((false,()),())
 else
 (ahT c).bind fun r12 =>
 if c.workers=((4:Nat):Int) then
 (adX 0).bind fun w0 =>
 (adX 1).bind fun w1 =>
 (adX 2).bind fun w2 =>
 (adX 3).bind fun w3 =>
 (lpF (aqk s.1) 18446744073709551616 (0,r9.1.1,w0.1.1,w1.1.1,w2.1.1,w3.1.1,r12.1.1,(0,[],0,0,0,0,()),())).bind fun z =>
 if (!true)=true then some ((false,()),())
 else
 (lpF (aHN z.2.1.evs) 18446744073709551616 (0,[],z.2.2.2.2.2.2.2.1,())).bind fun v =>
 (amc v.2.1).bind fun h =>
 (ab6 z.2.1.m).bind fun cl =>
 ayK c h.1.1 cl.1.1
 else none
noncomputable def abB (y0:List Int) (y1:List Int) (y2:List Int) (y3:Bool):Option ((Bool×Unit)×(Unit)) :=
 (arf y0 ([y2])).bind fun r1 =>
 if (!r1.1.1)=true then some ((true,()),())
 else
 if 800<((y1.length:Nat):Int) then some ((true,()),())
 else
 (agY y0).bind fun r2 =>
 (al9 y1 400).bind fun r3 =>
 if y3=true then
 (abx r2.1.1).bind fun r4 =>
 if (((r4.1.1.length+r3.1.1.length:Nat)):Int)<1000000000000 then
 aKc r2.1.1 y2 (r4.1.1++r3.1.1)
 else none
 else
 aKc r2.1.1 y2 r3.1.1
noncomputable abbrev agt:Con SR1:=⟨3,[.sh (.ro 17),.sh (.ro 17),.sh (.ro 1),.sh .b],[.sh .b],fun x =>abB x.1 x.2.1 x.2.2.1 x.2.2.2.1⟩
noncomputable def afW:List (Nat×Func):=[(11,Tryz.f11),(32,Tryz.f32),(64,Tryz.f64),(33,Tryz.f33),(65,Tryz.f65),(14,Tryz.f14),(15,Tryz.f15)]
theorem afX:CO Tryz.prog agt:=ahZ aah Tryz.func3 [ank,aiU,akF,ach,acv,agJ,acg,ahS,ahB,acN,aep,adi,ac9,ad2,aez,adf,akS,acO,ad7,acd,abY,acf,ace] ⟨anj,aiT,aln,acY,ac8,ahn,acX,aid,ah3,adu,ae0,adV,adM,aeE,ae5,adT,alu,adv,aev,acU,acw,acW,acV,trivial⟩ afW ⟨Tryz.func11,Tryz.func32,Tryz.func64,Tryz.func33,Tryz.func65,Tryz.func14,Tryz.func15,trivial⟩ (fun f =>(get [(32,[(6,.spl 22 [4] 5)]),(64,[(2,.unroll 5)]),(33,[(1,.loop [.rg 8 sI_,.ob 25 27,.ob 39 31,.ob 53 31,.ob 67 31,.ob 81 31,.ob 27 30,.cx 28 [.inr (.ptr 25 0),.inr (.sl 83),.inr (.ptr 27 0),.inr (.sl 118),.inl sI_,.inl (.row 1),.inl sI_,.inl sI_,.inl sU_,.inl sU_]] 18446744073709551616 0),(1,.loop [.rg 8 sI_,.ob 23 27,.ob 37 31,.ob 51 31,.ob 65 31,.ob 79 31,.ob 25 30,.cx 26 [.inr (.ptr 23 0),.inr (.sl 81),.inr (.ptr 25 0),.inr (.sl 116),.inl sI_,.inl (.row 1),.inl sI_,.inl sI_,.inl sU_,.inl sU_]] 18446744073709551616 0)]),(65,[(9,.cut [.ob 25 27,.ob 39 31,.ob 53 31,.ob 67 31,.ob 81 31,.ob 27 30,.cx 28 [.inr (.ptr 25 0),.inr (.sl 83),.inr (.ptr 27 0),.inr (.sl 118),.inl sI_,.inl (.row 1),.inl sI_,.inl sI_,.inl sU_,.inl sU_]] [0,1,2,4,15,16,121,122,123]),(9,.cut [.ob 23 27,.ob 37 31,.ob 51 31,.ob 65 31,.ob 79 31,.ob 25 30,.cx 26 [.inr (.ptr 23 0),.inr (.sl 81),.inr (.ptr 25 0),.inr (.sl 116),.inl sI_,.inl (.row 1),.inl sI_,.inl sI_,.inl sU_,.inl sU_]] [0,1,2,4,15,16,119,120,121]),(12,.loop [.ob 25 27,.cx 28 [.inr (.ptr 25 0),.inr (.sl 83),.inr (.ptr 27 0),.inr (.sl 118),.inl sI_,.inl (.row 1),.inl sI_,.inl sI_,.inl sU_,.inl sU_]] 18446744073709551616 1),(12,.loop [.ob 23 27,.cx 26 [.inr (.ptr 23 0),.inr (.sl 81),.inr (.ptr 25 0),.inr (.sl 116),.inl sI_,.inl (.row 1),.inl sI_,.inl sI_,.inl sU_,.inl sU_]] 18446744073709551616 1)]),(14,[(3,.loop [.rg 14 sI_,.rg 3 (.row 6),.cx 28 [.inr (.ptr 25 0),.inr (.sl 83),.inr (.ptr 27 0),.inr (.sl 118),.inl sI_,.inl (.row 1),.inl sI_,.inl sI_,.inl sU_,.inl sU_]] 18446744073709551616 0),(3,.loop [.rg 14 sI_,.rg 3 (.row 6),.cx 26 [.inr (.ptr 23 0),.inr (.sl 81),.inr (.ptr 25 0),.inr (.sl 116),.inl sI_,.inl (.row 1),.inl sI_,.inl sI_,.inl sU_,.inl sU_]] 18446744073709551616 0)])] f).getD []) [(8,.loop [.rg 10 (.row 5),.rg 11 sI_] 18446744073709551616 0),(21,.loopR [.rg 20 sI_] 18446744073709551616 2)] fun x =>by kernel_rfl
theorem avy {c:Cfg} (h:DecOk c):acu c=some (((aap c).queues,()),()):=by
 have h1:=h.w
 have h4:=h.h
 have h5:=h.k
 unfold acu
 rw [aaC (x:=4+c.heap) (aai (by omega)),aaC (x:=4+c.heap+c.classes) (aai (by omega)),aaC (x:=2*c.workers) (aai (by omega)),aaC (aai (by omega))]
 have e:4+c.heap+c.classes+2*c.workers=(aap c).queues:=by rw [amQ]; omega
 rw [e]
theorem awi {c:Cfg} (h:DecOk c) {t:Int} (ht:TOk c t):adK c t=some ((aaW (aap c) t,()),()):=by
 have h1:=h.w
 have h2:=h.l
 have h3:=h.q
 have h4:=h.h
 have h5:=h.k
 have h7:=h.t
 have hr:=h.rg
 have hq:=aeR h
 obtain ⟨t1,t2⟩:=ht
 have el:aaW (aap c) t=(aap c).table+1+t*5:=(adt h (f:=1) (by omega)).trans (if_pos ⟨t1,t2⟩)
 unfold adK afr
 rw [avy h,bnd,if_pos rfl,if_pos rfl,if_pos rfl,if_pos rfl]
 simp only
 rw [aaC (x:=c.workers*c.levels) (aai (by omega)),aaC (x:=2+c.deque) (aai (by omega)),aaC (x:=c.workers*c.levels*(2+c.deque)) (aai (by omega)),aaC (x:=(aap c).queues+_) (aai (by omega))]
 have e:(aap c).queues+c.workers*c.levels*(2+c.deque)=(aap c).table:=by omega
 rw [e]
 unfold ae6
 rw [if_neg (by omega),if_neg (by omega),bnd]
 simp only
 rw [aaC (x:=t*5) (aai (by omega)),aaC (x:=(aap c).table+t*5) (aai (by omega)),if_neg (by omega),bnd,aaC (aai (by omega)),el]
 have e2:(aap c).table+t*5+1=(aap c).table+1+t*5:=by omega
 rw [e2]
theorem atk {g:List Int} {evs:List Ev} (h1:g.length=evs.length) (h2:evs.length≤999999999):aaD (amc (List.zipWith stF g evs)) fun r =>r.1.1=evs:=by
 have hl:(List.zipWith stF g evs).length=evs.length:=by rw [List.length_zipWith,h1]; omega
 unfold amc
 refine aaD.bind (P:=fun z =>z.1=evs) (abj (fun x =>0≤x.2.1∧x.2.1≤(evs.length:Int)∧x.1=evs.take x.2.1.toNat) (fun x =>((evs.length:Int)-x.2.1).toNat) (fun self x hx ih =>?_) _ _ ⟨Int.le_refl 0,by show (0:Int)≤_; omega,rfl⟩ (by show ((evs.length:Int)-0).toNat<_; omega)) fun z hz =>.some_ hz
 obtain ⟨l,i,⟨⟩⟩:=x
 obtain ⟨q1,q2,q3⟩:=hx
 simp only at q1 q2 q3
 have e1:wi (i+1)=i+1:=aaC (aai (by omega))
 refine aaD.ite (fun hlt =>?_) fun hge =>.some_ ?_
 ·have hlt:i<(((List.zipWith stF g evs).length:Nat):Int):=hlt
  have hll:l.length≤evs.length:=by rw [q3,List.length_take]; omega
  have hi:i.toNat<(List.zipWith stF g evs).length:=by omega
  refine .guard ⟨q1,hlt⟩ fun _ =>.guard (by simp only [List.length_singleton]; omega) fun _ =>?_
  show aaD (self (l++[(azk (List.zipWith stF g evs) i).ev],wi (i+1),())) _
  rw [e1]
  refine ih _ ⟨by show 0≤i+1; omega,by show i+1≤_; omega,?_⟩ (by show (_-(i+1):Int).toNat<(_-i:Int).toNat; omega)
  show l++[_]=_
  have e6:(azk (List.zipWith stF g evs) i).ev=at4 evs i:=by
   have:=aff (α:=St) (d:=(dfR 6:TR 6)) (xs:=List.zipWith stF g evs) (i:=i) ⟨q1,hlt⟩
   rw [List.getElem?_eq_getElem hi,List.getElem_zipWith] at this
   obtain ⟨_,e⟩:=aBn (l:=evs) (i:=i) ⟨q1,by omega⟩
   rw [e]
   exact congrArg St.ev (Option.some.inj this).symm
  rw [e6,q3,amu ⟨q1,by omega⟩]
 ·have hge:¬ i<(((List.zipWith stF g evs).length:Nat):Int):=hge
  show l=_
  rw [q3,List.take_of_length_le (by omega)]
theorem awj {c:Cfg} (h:DecOk c):adL c=some ((aaL c,()),()):=by
 have h1:=h.w
 have h2:=h.l
 have h3:=h.q
 have h4:=h.h
 have h5:=h.k
 have h7:=h.t
 have hr:=h.rg
 have hq:=aeR h
 unfold adL
 rw [avy h,bnd,if_pos rfl,if_pos rfl,if_pos rfl,if_pos rfl]
 simp only
 rw [aaC (x:=c.workers*c.levels) (aai (by omega)),aaC (x:=2+c.deque) (aai (by omega)),aaC (x:=c.workers*c.levels*(2+c.deque)) (aai (by omega)),aaC (x:=(aap c).queues+_) (aai (by omega)),aaC (x:=5*c.tasks) (aai (by omega))]
 have e:(aap c).queues+c.workers*c.levels*(2+c.deque)=(aap c).table:=by omega
 rw [e,aaC (x:=(aap c).table+5*c.tasks) (aai (by omega))]
 rfl
theorem aBl {c:Cfg} {e:EnvP} {pub:Nat→ak8} (m:MI c e) (hn:(e.m.cells.length:Int)=aaL c) (hx:LX c e pub) :
  aaD (lpF (aK0 c (tlT c.tasks (lev e.evs)) e.m.cells) 18446744073709551616 (0,())) fun z =>∃ u,z=.inl u:=by
 have h:=m.d
 have ht:=h.t
 have hq:=aeR h
 have hh:=h.h
 have hc:aaL c=(aap c).table+5*c.tasks:=rfl
 refine abj (fun x =>0≤x.1∧x.1≤c.tasks) (fun x =>(c.tasks-x.1).toNat) (fun self x hx ih =>?_) _ _ ⟨Int.le_refl 0,by show (0:Int)≤_; omega⟩ (by show (c.tasks-0).toNat<_; omega)
 obtain ⟨t,⟨⟩⟩:=x
 obtain ⟨h1,h2⟩:=hx
 simp only at h1 h2
 have e1:wi (t+1)=t+1:=aaC (aai (by omega))
 unfold aK0
 simp only
 rw [e1]
 refine aaD.ite (fun hlt =>?_) fun hge =>.some_ ⟨_,rfl⟩
 have nx:aaD (self (t+1,())) fun z =>∃ u,z=.inl u:=ih _ ⟨by show 0≤t+1; omega,by show t+1≤_; omega⟩ (by show (_-(t+1):Int).toNat<(_-t:Int).toNat; omega)
 have gd:0≤t∧t<(((tlT c.tasks (lev e.evs)).length:Nat):Int):=by rw [ag7]; omega
 have ed:ady (tlT c.tasks (lev e.evs)) t=lev e.evs t:=auq ⟨h1,hlt⟩
 have el:aaW (aap c) t=(aap c).table+1+t*5:=(adt h (f:=1) (by omega)).trans (if_pos ⟨h1,hlt⟩)
 have gl:0≤aaW (aap c) t∧aaW (aap c) t<((e.m.cells.length:Nat):Int):=by omega
 have ea:ahf e.m.cells (aaW (aap c) t)=Lv c e t:=by
  show _=e.m.gt _
  unfold MemV.gt; rw [if_pos (by omega)]
 have k6:ckC c (aaW (aap c) t)=6:=(ap0 h (t:=t) (f:=1) (by omega)).trans (by rw [if_pos ⟨h1,hlt⟩,if_pos rfl])
 have a:0≤Lv c e t:=(m.ok (aaW (aap c) t)).p
 have b:Lv c e t<c.levels:=(m.ok (aaW (aap c) t)).l k6
 have hl:=h.l
 rw [ed,awi h ⟨h1,hlt⟩,bnd]
 simp only
 refine .guard gd fun _ =>aaD.ite (fun h0 =>.guard gd fun _ =>?_) fun _ =>nx
 have han:anE e.evs t:=Classical.byContradiction fun k =>by
  have:=hx.a2 t k
  omega
 have hlv:=hx.a1 t ⟨h1,hlt⟩ han
 refine .guard trivial fun _ =>.guard gl fun _ =>aaD.ite (fun k =>?_) fun _ =>nx
 exfalso
 rw [ea,hlv,afo (by omega)] at k
 exact k rfl
theorem alb {c:Cfg} {e:EnvP} {pub:Nat→ak8} (m:MI c e) (g:ait c e.evs) (hn:(e.m.cells.length:Int)=aaL c) (hl:e.evs.length≤999999999) (hx:LX c e pub):aaD (ayK c e.evs e.m.cells) fun r =>r.1.1=true:=by
 unfold ayK
 refine (aA5 m.d g hl).bind fun r1 h1 =>(az5 m.d g hl).bind fun r2 h2 =>(ayU m.d g hl).bind fun r3 h3 =>?_
 rw [if_neg (fun k =>k h1.1),if_neg (fun k =>k h1.2),if_neg (fun k =>k h2.1),if_neg (fun k =>k h2.2),awj m.d,bnd,if_neg (fun k =>k hn),h3]
 refine (aBl m hn hx).bind fun z hz =>?_
 obtain ⟨u,rfl⟩:=hz
 exact .some_ rfl
theorem alk {c:Cfg} (h:DecOk c):aaD (abx c) fun o =>o.1.1.length≤200:=by
 have hs:=h.sn
 have e0:wi (40*((c.subs.length:Nat):Int))=40*(c.subs.length:Int):=aaC (aai (by omega))
 unfold abx
 refine aaD.bind (P:=fun z =>z.1.length≤200) (abj (fun x =>0≤x.2.1∧(x.1.length:Int)≤x.2.1∧x.2.1≤40*(c.subs.length:Int)) (fun x =>(40*(c.subs.length:Int)-x.2.1).toNat) (fun self x hx ih =>?istep) _ _ ⟨Int.le_refl 0,Int.le_refl 0,by show (0:Int)≤_; omega⟩ (by show (_-0:Int).toNat<_; omega)) fun z hz =>.some_ hz
 case istep =>
  obtain ⟨q0,q1,q2⟩:=hx
  have e1:wi (x.2.1+1)=x.2.1+1:=aaC (aai (by omega))
  rw [e0,e1]
  refine aaD.ite (fun hlt =>?_) fun _ =>.some_ (by show x.1.length≤200; omega)
  unfold adz
  rw [bnd]
  refine .guard (by simp only [List.length_singleton]; omega) fun _ =>ih _ ⟨by show 0≤x.2.1+1; omega,?_,by show x.2.1+1≤_; omega⟩ (by show (_-(x.2.1+1):Int).toNat<(_-x.2.1:Int).toNat; omega)
  show ((x.1++[_]).length:Int)≤x.2.1+1
  rw [List.length_append,List.length_singleton]
  omega
theorem apI {c:Cfg} (hd:DecOk c) {y:List Int} {l:List EntV} (hy:y.length≤1000000) (hl:l.length≤600):aaD (lpF (ayQ y c) 18446744073709551616 (l,0,())) fun z =>z.1.length≤8600:=by
 have hw:=hd.w
 refine abj (fun x =>(0≤x.2.1∧x.2.1≤40)∧(x.1.length:Int)≤600+200*x.2.1) (fun x =>(40-x.2.1).toNat) (fun self x hx ih =>?_) _ _ ⟨⟨Int.le_refl 0,by show (0:Int)≤40; omega⟩,by show (l.length:Int)≤600+200*0; omega⟩ (by show (40-0:Int).toNat<_; omega)
 obtain ⟨m,i,⟨⟩⟩:=x
 obtain ⟨⟨q0,q1⟩,q2⟩:=hx
 simp only at q0 q1 q2
 have fin:m.length≤8600:=by omega
 have e1:wi (5*i)=5*i:=aaC (aai (by omega))
 have e2:wi (c.workers+1)=c.workers+1:=aaC (aai (by omega))
 have e3:wi (i+1)=i+1:=aaC (aai (by omega))
 unfold ayQ
 refine aaD.ite (fun _ =>aaD.ite (fun hlt =>?_) fun _ =>.some_ fin) fun _ =>.some_ fin
 have hlt:i<40:=hlt
 simp only
 rw [e1,e2,e3]
 refine (az0 hy (by omega) (by omega)).bind fun r hr =>.guard (by omega) fun _ =>?_
 refine ih _ ⟨⟨by show 0≤i+1; omega,by show i+1≤40; omega⟩,?_⟩ (by show (40-(i+1):Int).toNat<(40-i:Int).toNat; omega)
 show ((m++r.1.1).length:Int)≤600+200*(i+1)
 rw [List.length_append]
 omega
theorem atR {c:Cfg}:EG 0 (anK c) (0,[],0,0,0,0,()):=⟨rfl,rfl,fun s h =>(by cases h),.nil⟩
theorem avl {c:Cfg} {y2:List Int} {l:List EntV} (ho:DecOk c) (hw:c.workers=(((1:Nat):Int))) (hy:y2.length≤1000000) (hl:l.length≤600):aaD (aKf c y2 l) fun r =>r.1.1=true:=by
 unfold aKf
 refine (apI ho hy hl).bind fun s hs =>?_
 rw [ax9 (afG ho),bnd,if_neg (fun h =>h rfl),ayw ho,bnd,if_pos hw,alL (l:=aap c) (j:=0),bnd]
 have hj:XJ c 0 (anK c) [ai6 (aap c) 0 ⟨0,0,0,0,.top⟩] (atZ c.subs c.workers ⟨0,0,false,.n1⟩):=axj ho fun j w hj =>by
  match j,hj with
  | 0,hj =>exact (Option.some.inj hj).symm
 refine (aJx aoK (l:=s.1) hj atR (by omega)).bind fun z hz =>?_
 obtain ⟨zi,ze,z0,zc,zg,⟨⟩⟩:=z
 obtain ⟨a1,a2,_⟩:=hz
 have a1:XJ c (0+s.1.length) ze [z0] zc:=a1
 have a2:EG (0+s.1.length) ze zg:=a2
 have hev:=aoK.ev a1
 obtain ⟨g1,g2,g3,pub,g4⟩:=a1.out
 rw [if_neg (by decide)]
 refine (apX a2.l (by omega)).bind fun v hv =>?_
 rw [hv.1]
 refine (atk a2.l (by omega)).bind fun h hh =>?_
 have hcl:ze.m.cells.length≤1000000:=by
  have q0:=ho.t
  have q1:=aeR ho
  have q2:aaL c=(aap c).table+5*c.tasks:=rfl
  omega
 rw [ap6 ze.m hcl,bnd,hh]
 exact alb g1 g2 g3 (by omega) g4
theorem aDO {y0 y1 y2:List Int} {y3:Bool} {o:(Cfg×Unit)×Unit} (e:agY y0=some o) (ho:DecOk o.1.1) (hw:o.1.1.workers=(((1:Nat):Int))):aaD (aa7 y0 y1 y2 y3) fun r =>r.1.1=true:=by
 obtain ⟨⟨c,⟨⟩⟩,⟨⟩⟩:=o
 simp only at ho hw
 unfold aa7
 refine (aiE y0 [y2] (by simp)).bind fun r hr =>aaD.ite (fun _ =>.some_ rfl) fun hb =>aaD.ite (fun _ =>.some_ rfl) fun hlen =>?_
 have hy:y2.length≤400:=(hr (by cases hq:r.1.1; exact absurd (by rw [hq]; rfl) hb; rfl)).2 y2 (by simp)
 rw [e,bnd]
 refine (ald (b:=y1) (n:=400) (by omega) (by decide)).bind fun r4 h4 =>?_
 have h4:r4.1.1.length≤400:=h4
 refine aaD.ite (fun _ =>(alk ho).bind fun r3 h3 =>?_) fun _ =>avl ho hw (by omega) (by omega)
 have h3:r3.1.1.length≤200:=h3
 exact .guard (by omega) fun _ =>avl ho hw (by omega) (by rw [List.length_append]; omega)
theorem avk {c:Cfg} {y2:List Int} {l:List EntV} (ho:DecOk c) (hw:c.workers=(((2:Nat):Int))) (hy:y2.length≤1000000) (hl:l.length≤600):aaD (aKe c y2 l) fun r =>r.1.1=true:=by
 unfold aKe
 refine (apI ho hy hl).bind fun s hs =>?_
 rw [ax9 (afG ho),bnd,if_neg (fun h =>h rfl),ayw ho,bnd,if_pos hw,alL (l:=aap c) (j:=0),bnd,alL (l:=aap c) (j:=1),bnd]
 have hj:XJ c 0 (anK c) [ai6 (aap c) 0 ⟨0,0,0,0,.top⟩,ai6 (aap c) 1 ⟨0,0,0,0,.top⟩] (atZ c.subs c.workers ⟨0,0,false,.n1⟩):=axj ho fun j w hj =>by
  match j,hj with
  | 0,hj =>exact (Option.some.inj hj).symm
  | 1,hj =>exact (Option.some.inj hj).symm
 refine (aJw aoK (l:=s.1) hj atR (by omega)).bind fun z hz =>?_
 obtain ⟨zi,ze,z0,z1,zc,zg,⟨⟩⟩:=z
 obtain ⟨a1,a2,_⟩:=hz
 have a1:XJ c (0+s.1.length) ze [z0,z1] zc:=a1
 have a2:EG (0+s.1.length) ze zg:=a2
 have hev:=aoK.ev a1
 obtain ⟨g1,g2,g3,pub,g4⟩:=a1.out
 rw [if_neg (by decide)]
 refine (apX a2.l (by omega)).bind fun v hv =>?_
 rw [hv.1]
 refine (atk a2.l (by omega)).bind fun h hh =>?_
 have hcl:ze.m.cells.length≤1000000:=by
  have q0:=ho.t
  have q1:=aeR ho
  have q2:aaL c=(aap c).table+5*c.tasks:=rfl
  omega
 rw [ap6 ze.m hcl,bnd,hh]
 exact alb g1 g2 g3 (by omega) g4
theorem aDN {y0 y1 y2:List Int} {y3:Bool} {o:(Cfg×Unit)×Unit} (e:agY y0=some o) (ho:DecOk o.1.1) (hw:o.1.1.workers=(((2:Nat):Int))):aaD (abD y0 y1 y2 y3) fun r =>r.1.1=true:=by
 obtain ⟨⟨c,⟨⟩⟩,⟨⟩⟩:=o
 simp only at ho hw
 unfold abD
 refine (aiE y0 [y2] (by simp)).bind fun r hr =>aaD.ite (fun _ =>.some_ rfl) fun hb =>aaD.ite (fun _ =>.some_ rfl) fun hlen =>?_
 have hy:y2.length≤400:=(hr (by cases hq:r.1.1; exact absurd (by rw [hq]; rfl) hb; rfl)).2 y2 (by simp)
 rw [e,bnd]
 refine (ald (b:=y1) (n:=400) (by omega) (by decide)).bind fun r4 h4 =>?_
 have h4:r4.1.1.length≤400:=h4
 refine aaD.ite (fun _ =>(alk ho).bind fun r3 h3 =>?_) fun _ =>avk ho hw (by omega) (by omega)
 have h3:r3.1.1.length≤200:=h3
 exact .guard (by omega) fun _ =>avk ho hw (by omega) (by rw [List.length_append]; omega)
theorem avj {c:Cfg} {y2:List Int} {l:List EntV} (ho:DecOk c) (hw:c.workers=(((3:Nat):Int))) (hy:y2.length≤1000000) (hl:l.length≤600):aaD (aKd c y2 l) fun r =>r.1.1=true:=by
 unfold aKd
 refine (apI ho hy hl).bind fun s hs =>?_
 rw [ax9 (afG ho),bnd,if_neg (fun h =>h rfl),ayw ho,bnd,if_pos hw,alL (l:=aap c) (j:=0),bnd,alL (l:=aap c) (j:=1),bnd,alL (l:=aap c) (j:=2),bnd]
 have hj:XJ c 0 (anK c) [ai6 (aap c) 0 ⟨0,0,0,0,.top⟩,ai6 (aap c) 1 ⟨0,0,0,0,.top⟩,ai6 (aap c) 2 ⟨0,0,0,0,.top⟩] (atZ c.subs c.workers ⟨0,0,false,.n1⟩):=axj ho fun j w hj =>by
  match j,hj with
  | 0,hj =>exact (Option.some.inj hj).symm
  | 1,hj =>exact (Option.some.inj hj).symm
  | 2,hj =>exact (Option.some.inj hj).symm
 refine (aJv aoK (l:=s.1) hj atR (by omega)).bind fun z hz =>?_
 obtain ⟨zi,ze,z0,z1,z2,zc,zg,⟨⟩⟩:=z
 obtain ⟨a1,a2,_⟩:=hz
 have a1:XJ c (0+s.1.length) ze [z0,z1,z2] zc:=a1
 have a2:EG (0+s.1.length) ze zg:=a2
 have hev:=aoK.ev a1
 obtain ⟨g1,g2,g3,pub,g4⟩:=a1.out
 rw [if_neg (by decide)]
 refine (apX a2.l (by omega)).bind fun v hv =>?_
 rw [hv.1]
 refine (atk a2.l (by omega)).bind fun h hh =>?_
 have hcl:ze.m.cells.length≤1000000:=by
  have q0:=ho.t
  have q1:=aeR ho
  have q2:aaL c=(aap c).table+5*c.tasks:=rfl
  omega
 rw [ap6 ze.m hcl,bnd,hh]
 exact alb g1 g2 g3 (by omega) g4
theorem aDM {y0 y1 y2:List Int} {y3:Bool} {o:(Cfg×Unit)×Unit} (e:agY y0=some o) (ho:DecOk o.1.1) (hw:o.1.1.workers=(((3:Nat):Int))):aaD (abC y0 y1 y2 y3) fun r =>r.1.1=true:=by
 obtain ⟨⟨c,⟨⟩⟩,⟨⟩⟩:=o
 simp only at ho hw
 unfold abC
 refine (aiE y0 [y2] (by simp)).bind fun r hr =>aaD.ite (fun _ =>.some_ rfl) fun hb =>aaD.ite (fun _ =>.some_ rfl) fun hlen =>?_
 have hy:y2.length≤400:=(hr (by cases hq:r.1.1; exact absurd (by rw [hq]; rfl) hb; rfl)).2 y2 (by simp)
 rw [e,bnd]
 refine (ald (b:=y1) (n:=400) (by omega) (by decide)).bind fun r4 h4 =>?_
 have h4:r4.1.1.length≤400:=h4
 refine aaD.ite (fun _ =>(alk ho).bind fun r3 h3 =>?_) fun _ =>avj ho hw (by omega) (by omega)
 have h3:r3.1.1.length≤200:=h3
 exact .guard (by omega) fun _ =>avj ho hw (by omega) (by rw [List.length_append]; omega)
theorem avi {c:Cfg} {y2:List Int} {l:List EntV} (ho:DecOk c) (hw:c.workers=(((4:Nat):Int))) (hy:y2.length≤1000000) (hl:l.length≤600):aaD (aKc c y2 l) fun r =>r.1.1=true:=by
 unfold aKc
 refine (apI ho hy hl).bind fun s hs =>?_
 rw [ax9 (afG ho),bnd,if_neg (fun h =>h rfl),ayw ho,bnd,if_pos hw,alL (l:=aap c) (j:=0),bnd,alL (l:=aap c) (j:=1),bnd,alL (l:=aap c) (j:=2),bnd,alL (l:=aap c) (j:=3),bnd]
 have hj:XJ c 0 (anK c) [ai6 (aap c) 0 ⟨0,0,0,0,.top⟩,ai6 (aap c) 1 ⟨0,0,0,0,.top⟩,ai6 (aap c) 2 ⟨0,0,0,0,.top⟩,ai6 (aap c) 3 ⟨0,0,0,0,.top⟩] (atZ c.subs c.workers ⟨0,0,false,.n1⟩):=axj ho fun j w hj =>by
  match j,hj with
  | 0,hj =>exact (Option.some.inj hj).symm
  | 1,hj =>exact (Option.some.inj hj).symm
  | 2,hj =>exact (Option.some.inj hj).symm
  | 3,hj =>exact (Option.some.inj hj).symm
 refine (aJu aoK (l:=s.1) hj atR (by omega)).bind fun z hz =>?_
 obtain ⟨zi,ze,z0,z1,z2,z3,zc,zg,⟨⟩⟩:=z
 obtain ⟨a1,a2,_⟩:=hz
 have a1:XJ c (0+s.1.length) ze [z0,z1,z2,z3] zc:=a1
 have a2:EG (0+s.1.length) ze zg:=a2
 have hev:=aoK.ev a1
 obtain ⟨g1,g2,g3,pub,g4⟩:=a1.out
 rw [if_neg (by decide)]
 refine (apX a2.l (by omega)).bind fun v hv =>?_
 rw [hv.1]
 refine (atk a2.l (by omega)).bind fun h hh =>?_
 have hcl:ze.m.cells.length≤1000000:=by
  have q0:=ho.t
  have q1:=aeR ho
  have q2:aaL c=(aap c).table+5*c.tasks:=rfl
  omega
 rw [ap6 ze.m hcl,bnd,hh]
 exact alb g1 g2 g3 (by omega) g4
theorem aDL {y0 y1 y2:List Int} {y3:Bool} {o:(Cfg×Unit)×Unit} (e:agY y0=some o) (ho:DecOk o.1.1) (hw:o.1.1.workers=(((4:Nat):Int))):aaD (abB y0 y1 y2 y3) fun r =>r.1.1=true:=by
 obtain ⟨⟨c,⟨⟩⟩,⟨⟩⟩:=o
 simp only at ho hw
 unfold abB
 refine (aiE y0 [y2] (by simp)).bind fun r hr =>aaD.ite (fun _ =>.some_ rfl) fun hb =>aaD.ite (fun _ =>.some_ rfl) fun hlen =>?_
 have hy:y2.length≤400:=(hr (by cases hq:r.1.1; exact absurd (by rw [hq]; rfl) hb; rfl)).2 y2 (by simp)
 rw [e,bnd]
 refine (ald (b:=y1) (n:=400) (by omega) (by decide)).bind fun r4 h4 =>?_
 have h4:r4.1.1.length≤400:=h4
 refine aaD.ite (fun _ =>(alk ho).bind fun r3 h3 =>?_) fun _ =>avi ho hw (by omega) (by omega)
 have h3:r3.1.1.length≤200:=h3
 exact .guard (by omega) fun _ =>avi ho hw (by omega) (by rw [List.length_append]; omega)
theorem aJo {y0 y1 y2:List Int} {y3:Bool} (hb:∀ x∈y0,0≤x∧x≤255) :
  aaD (aa7 y0 y1 y2 y3) (fun r =>r.1.1=true)∨aaD (abD y0 y1 y2 y3) (fun r =>r.1.1=true)∨aaD (abC y0 y1 y2 y3) (fun r =>r.1.1=true)∨aaD (abB y0 y1 y2 y3) (fun r =>r.1.1=true):=by
 by_cases hl:y0.length≤400
 ·obtain ⟨o,e,ho⟩:=aw1 hb (by omega)
  have hw:=ho.w
  have hv:o.1.1.workers=((1:Nat):Int)∨o.1.1.workers=((2:Nat):Int)∨o.1.1.workers=((3:Nat):Int)∨o.1.1.workers=((4:Nat):Int):=by omega
  rcases hv with h | h | h | h
  ·exact .inl (aDO e ho h)
  ·exact .inr (.inl (aDN e ho h))
  ·exact .inr (.inr (.inl (aDM e ho h)))
  ·exact .inr (.inr (.inr (aDL e ho h)))
 ·refine .inl ?_
  unfold aa7
  refine (aiE y0 [y2] (by simp)).bind fun r hr =>aaD.ite (fun _ =>.some_ rfl) fun h =>?_
  exfalso
  have h1:r.1.1=true:=by revert h; cases r.1.1<;>simp
  exact hl (hr h1).1
end
end Go.Proofs.YteapeojalliebaaGreat
