/- Who has a task: Run,a worker,the client. Who has a task: what holds of an engine between its entries. Levels along waits: what covers a task,and what keeps it covered. No program occurs here. Waits,walks and levels: what holds between steps,and how each kind of step keeps it. No program occurs here. What the events say of levels and waits,and when an engine's events are good. Walks: the check of a configuration (its reference),and whether it is small. The reference's check of a configuration,in the evaluator's words. -/
import Derived.Test.YteapeojalliebaaGreatIzao
import Derived.Test.YteapeojalliebaaGreatIzaa
import Derived.Test.YteapeojalliebaaGreatIzai
set_option linter.all false
namespace Go.Proofs.YteapeojalliebaaGreat
section
open Go Go.RowKit
set_option maxRecDepth 100000
variable [Tb]
def vwR (r:RunS):Vw:=match r.c with
 | .next =>(r.stack,.n)
 | .s2 _ =>(r.stack,.p r.id)
 | .s3 _ =>(r.stack,.n)
 | .s4 _ =>(r.stack,.n)
 | .s5 =>(r.stack,.n)
 | .j2 =>(r.stack,.j (aas r.stack) r.child)
 | .j3 =>(r.stack.dropLast,.b (aas r.stack) r.child)
 | .j4 =>(r.stack.dropLast,.n)
 | .j5 _ =>(r.stack.dropLast,.n)
 | .j6 =>(r.stack.dropLast,.r (aas r.stack))
 | .j7 =>(r.stack,.n)
 | .f2 =>(r.stack.dropLast,.f (aas r.stack))
 | .f3 =>(r.stack.dropLast,.g (aas r.stack))
 | .f4 .l1 =>(r.stack.dropLast,.h (aas r.stack) r.waiter)
 | .f4 .l2 =>(r.stack.dropLast,.h (aas r.stack) r.waiter)
 | .f4 .l3 =>(r.stack.dropLast,.n)
 | .f4 (.l4 _ _) =>(r.stack.dropLast,.n)
 | .f5 _ _ =>(r.stack.dropLast,.n)
 | .f6 =>(r.stack.dropLast,.n)
def vwO:Rs RunS→Vw
 | .go r =>vwR r
 | .fin _ _ =>([],.n)
section
variable {c:Cfg} {e e':EnvP} {w:Int} {v:Vw}
def aCt (c:Cfg) (e:EnvP) (v:Vw) (o:Rs RunS×EnvP):Prop:=Lw c e o.2 v (vwO o.1)∧o.1.Q (fun r =>r.stack≠[]) fun _ _ =>True
theorem aCt.ite {P:Prop} [Decidable P] {a b:Rs RunS×EnvP} (h1:P→aCt c e v a) (h2:¬ P→aCt c e v b):aCt c e v (if P then a else b):=by
 split
 ·exact h1 ‹_›
 ·exact h2 ‹_›
theorem axs {l:List Int} (h:l≠[]):l.dropLast++[aas l]=l:=by
 have e1:aas l=l.getLast h:=by unfold aas; rw [List.getLast?_eq_some_getLast h]; rfl
 rw [e1]
 exact List.dropLast_concat_getLast h
theorem aqo {l:List Int} (h:l≠[]):aas l∈l:=by
 have h1:aas l∈l.dropLast++[aas l]:=by simp
 rwa [axs h] at h1
theorem arc {r:RunS} (h:Lw c e e' v (r.stack.dropLast,.n)) (hs:r.stack≠[]):aCt c e v (aha r e'):=by
 unfold aha aCt
 by_cases h1:r.stack.length=1
 ·rw [if_pos h1]
  have:r.stack.dropLast=[]:=List.eq_nil_of_length_eq_zero (by rw [List.length_dropLast]; omega)
  rw [this] at h
  exact ⟨h,trivial⟩
 ·rw [if_neg h1]
  refine ⟨h,fun k =>?_⟩
  have:r.stack.dropLast.length=0:=by rw [show r.stack.dropLast=[] from k]; rfl
  rw [List.length_dropLast] at this
  have:r.stack.length≠0:=fun k =>hs (List.eq_nil_of_length_eq_zero k)
  omega
theorem az9 {t:Int} {r:RecP} (ht:TOk c t) (hr:(e.recs.length:Int)=c.tasks):rcs (e.pr t r) t=r.started:=by
 unfold rcs; rw [if_pos ht.1,akm ht hr]
theorem az8 {t:Int} {r:RecP} (ht:TOk c t) (hr:(e.recs.length:Int)=c.tasks):rcw (e.pr t r) t=r.waiting:=by
 unfold rcw; rw [if_pos ht.1,akm ht hr]
theorem aAa {t:Int} (ht:TOk c t):rcs e t=(e.rc t).started:=if_pos ht.1
theorem aET {a o x:Int} (hm:¬ e.hit a o=true):Qs c e (e.cas a o x):=by
 have g:∀ b,(e.cas a o x).gt b=e.gt b:=fun b =>by rw [ao4,if_neg (fun k =>hm k.1)]
 exact ⟨fun t =>g _,fun t =>g _,fun t =>g _,g _,rfl,[],by show e.evs=_; simp,fun x hx =>by cases hx⟩
theorem aE5 {a o x:Int} (hm:e.hit a o=true):e.cas a o x=e.pt 3 a x:=by
 show e.pt 3 _ (if e.m.gt _=o then x else _)=_
 rw [if_pos (avm hm).1]
theorem aJp (h:DecOk c) {t f o:Int} (hf:0≤f∧f<5) (hm:e.hit (ac0 (aap c) t f) o=true):TOk c t:=by
 have h1:=(avm hm).2
 have e1:=adt h (t:=t) hf
 by_cases ht:0≤t∧t<c.tasks
 ·exact ht
 ·rw [e1,if_neg ht] at h1; omega
theorem aDb (hd:DecOk c) {t:Int} {l:List Int} {r:RecP} (ht:TOk c t) (hr:(e.recs.length:Int)=c.tasks) (hin:t∈l) (hs:r.started=(e.rc t).started) {p:Ph} (hp:p=.n∨p=.j t r.waiting):Lw c e (e.pr t r) (l,.n) (l,p) :=
 aEJ hd ht (aqY.pr ht) hin rfl (by rw [az9 ht hr,aAa ht,hs]) rfl rfl rfl (by rw [az8 ht hr]; exact hp)
theorem aAg (hd:DecOk c) {t k x:Int} {l:List Int} {r:RecP} (ht:TOk c t) (hr:(e.recs.length:Int)=c.tasks) (hin:t∈l) (hs:r.started=(e.rc t).started) {p:Ph} (hp:p=.n∨p=.j t r.waiting):Lw c e ((e.pt k (adp (aap c) t) x).pr t r) (l,.n) (l,p) :=
 aEJ hd ht ((aqY.wt hd).pr ht) hin (akO hd (f:=0) (by omega) (by omega) (by omega)) (by rw [az9 (e:=e.pt k (adp (aap c) t) x) ht hr,aAa ht,hs]) rfl rfl rfl (by rw [az8 (e:=e.pt k (adp (aap c) t) x) ht hr]; exact hp)
theorem aJ3 {t:Int} {l:List Int} {v':Vw} (hf:¬ TOk c t):Lw c e e (l,.f t) v':=fun m vs hv h =>by
 obtain ⟨rl,ts,la⟩:=h
 have:=la.ph m
 have e2:(ai5 c e ts vs).ph m=.f t:=by show (vs m).2=_; rw [hv]
 rw [e2] at this
 exact absurd this.1 hf
theorem aJH (hf:∀ x,v.2=.f x→¬ TOk c x):Lw c e e v ([],.n):=by
 obtain ⟨l,p⟩:=v
 cases p with
 | f t =>exact aJ3 (hf t rfl)
 | _ =>exact .drop (fun x hx =>by cases hx) (fun _ =>.nil) (fun x k =>by cases k)
theorem aHr {x:RecP} {i:Ins}:(avC x i).started=x.started:=by
 unfold avC
 repeat' split
 all_goals rfl
theorem aI8 {t:Int} {r:RunS} (h:MI c e) (hl:(e.m.cells.length:Int)=aaL c) (hN:0≤e.gt 0∧e.gt 0≤1000000) (hr:(e.recs.length:Int)=c.tasks) (ht:TOk c t) (hc:r.c=.next) (hs:r.stack≠[]) (htop:aas r.stack=t):aCt c e (r.stack,.n) (arW w e r t (e.rc t) (e.prog (e.rc t))):=by
 have hp:vwR r=(r.stack,.n):=by unfold vwR; rw [hc]
 have hin:t∈r.stack:=htop▸aqo hs
 have hgo:∀ {e':EnvP},Lw c e e' (r.stack,.n) (r.stack,.n)→aCt c e (r.stack,.n) (.go r,e'):=fun h =>⟨by show Lw c e _ _ (vwR r); rw [hp]; exact h,hs⟩
 unfold arW
 rw [h.l]
 refine .ite (fun _ =>hgo (aAg (r:={ e.rc t with waiting := -1 }) h.d ht hr hin rfl (.inl rfl))) fun _ =>?_
 refine .ite (fun _ =>⟨?_,hs⟩) fun _ =>?_
 ·show Lw c e _ _ (r.stack.dropLast,.f (aas r.stack))
  have:=aHn (e:=e) (k:=2) (l:=r.stack.dropLast) h.d hl ht
  rw [← htop,axs hs] at this
  rw [← htop]; exact this
 refine .ite (fun _ =>hgo (aDb h.d ht hr hin aHr (.inl rfl))) fun _ =>?_
 refine .ite (fun _ =>?_) fun _ =>?_
 ·have e1:wi (e.gt 0)=e.gt 0:=aaC (aai (by omega))
  rw [e1]
  refine .ite (fun hn =>⟨?_,hs⟩) fun hn =>hgo ?_
  ·have hn:TOk c (e.gt 0):=by unfold IsT at hn; rw [h.cc] at hn; exact hn
   refine Lw.trans (aDb (r:={ e.rc t with pc:=wi ((e.rc t).pc+1),kids:=(e.rc t).kids++[e.gt 0] }) h.d ht hr hin rfl (.inl rfl)) ?_
   exact ayG (e:=e.pr t _) h.d hl hN hn.2
  ·have hn:¬ TOk c (e.gt 0):=by unfold IsT at hn; rw [h.cc] at hn; exact hn
   refine Lw.em (by omega) (Lw.trans (aDb (r:={ e.rc t with pc:=wi ((e.rc t).pc+1),kids:=(e.rc t).kids++[-1] }) h.d ht hr hin rfl (.inl rfl)) ?_)
   refine aAN (e:=e.pr t _) h.d hl hN ?_
   show c.tasks≤e.gt 0
   exact Int.not_lt.1 fun k =>hn ⟨hN.1,k⟩
 ·refine .ite (fun _ =>hgo (aDb (r:={ e.rc t with pc:=wi ((e.rc t).pc+1) }) h.d ht hr hin rfl (.inl rfl))) fun _ =>⟨?_,hs⟩
  have:=aAg (e:=e) (k:=2) (x:=wu (wi (ady (e.rc t).kids (acl (e.prog (e.rc t)) (e.rc t).pc).a+1))) (r:={ e.rc t with pc:=wi ((e.rc t).pc+1),waiting:=ady (e.rc t).kids (acl (e.prog (e.rc t)) (e.rc t).pc).a }) h.d ht hr hin rfl (.inr rfl)
  rw [← htop] at this ⊢
  exact this
theorem aKH {r:RunS} (h:MI c e) (hl:(e.m.cells.length:Int)=aaL c) (hN:0≤e.gt 0∧e.gt 0≤1000000) (hrl:(e.recs.length:Int)=c.tasks) (hr:aHC c r) (hs:r.stack≠[]):aCt c e (vwR r) (aui w e r):=by
 unfold aui
 refine .ite (fun ht =>⟨aJH fun x hx =>?_,trivial⟩) fun ht =>?_
 ·unfold IsT at ht
  rw [h.cc] at ht
  revert hx
  obtain ⟨stack,id,child,level,waiter,k⟩:=r
  cases k with
  | f2 =>intro k; cases k; exact ht
  | f4 s =>cases s<;>(intro k; cases k)
  | _ =>intro k; cases k
 replace ht:IsT e (aas r.stack):=Classical.not_not.1 ht
 unfold IsT at ht
 rw [h.cc] at ht
 obtain ⟨stack,id,child,level,waiter,k⟩:=r
 replace ht:TOk c (aas stack):=ht
 replace hs:stack≠[]:=hs
 have hst:=axs hs
 have hin:=aqo hs
 have ht2:0≤aas stack∧aas stack<c.tasks:=ht
 have htt:=h.d.t
 show aCt c e _ (aeB w e _ (aas stack))
 cases k with
 | next =>exact aI8 h hl hN hrl ht rfl hs rfl
 | s2 s =>
  obtain ⟨h1,h2⟩:=hr
  simp only [aeB,afA]
  have hi:¬ ¬ IsT e id:=by unfold IsT; rw [h.cc]; exact fun h =>h h1
  rw [if_neg hi,h.l]
  cases s with
  | l1 =>exact ⟨Lw.q (.wr h.d (ahm h.d)) .refl,hs⟩
  | l2 =>exact ⟨Lw.q (.since h.d) .refl,hs⟩
  | l3 =>exact ⟨aCP h.d hl h1,hs⟩
 | s3 s =>
  have:=akC (w:=w) (v:=level) (x:=id) h s hr.2
  simp only [aeB]
  revert this
  rcases abL w level id e s with ⟨o,e'⟩
  intro this
  cases o with
  | go s =>exact ⟨Lw.q this .refl,hs⟩
  | fin c0 v0 =>
   simp only
   split
   ·exact ⟨Lw.q this .refl,hs⟩
   ·exact ⟨Lw.q this .refl,hs⟩
 | s4 s =>
  have:=amq (w:=w) (v:=level) h s
  simp only [aeB]
  revert this
  rcases aej w level e s with ⟨o,e'⟩
  intro this
  cases o with
  | go s =>exact ⟨Lw.q this .refl,hs⟩
  | fin c0 v0 =>exact ⟨Lw.q this .refl,hs⟩
 | s5 =>
  simp only [aeB]
  split
  ·rename_i hb
   exact ⟨ap4 h.d hl h.l hr hb,by show stack++[id]≠[]; simp⟩
  ·rename_i hb
   exact ⟨Lw.q (ap3 h.d h.l hb) .refl,hs⟩
 | j2 =>
  simp only [aeB]
  rw [h.l]
  refine ⟨?_,hs⟩
  have:=aGI (e:=e) (k:=2) (l:=stack.dropLast) (u:=child) h.d hl ht
  rw [hst] at this
  exact this
 | j3 =>
  simp only [aeB]
  rw [h.l]
  have e1:wu (wi (aas stack+1))=aas stack+1:=by rw [aaC (x:=aas stack+1) (aai (by omega)),afo (by omega)]
  rw [e1]
  refine .ite (fun hb =>⟨?_,hs⟩) fun hb =>⟨?_,hs⟩
  ·rw [aE5 hb]
   exact Lw.em (by omega) (aJq h.d hl (aJp h.d (f:=2) (by omega) hb))
  ·exact Lw.qr (aET hb) aGH
 | j4 =>exact ⟨Lw.q .lk .refl,hs⟩
 | j5 s =>
  have:=aH6 (w:=w) (v:=level) h s hr
  simp only [aeB]
  revert this
  rcases ae9 w level e s with ⟨o,e'⟩
  intro this
  cases o with
  | go s =>exact ⟨Lw.q this .refl,hs⟩
  | fin c0 v0 =>exact arc (Lw.em (by omega) (Lw.q this .refl)) hs
 | j6 =>
  simp only [aeB]
  rw [h.l]
  refine ⟨?_,hs⟩
  have:=aHz (e:=e) (k:=2) (l:=stack.dropLast) h.d hl ht
  rw [hst] at this
  exact this
 | j7 =>
  simp only [aeB]
  rw [h.l]
  exact ⟨Lw.em (by omega) (aAg (r:={ e.rc (aas stack) with waiting := -1 }) h.d ht hrl hin rfl (.inl rfl)),hs⟩
 | f2 =>
  simp only [aeB]
  rw [h.l]
  have cz:∀ {e1:EnvP} {q:Int→Bool},(e1.evs=e.evs)→q 10=false→ack q (e1.em 10 w (aas stack) 0 0).evs (aas stack)=ack q e1.evs (aas stack):=fun {e1 q} _ hq =>by
   show ack q (e1.evs++[_]) _=_
   rw [ab7,adn,hq,if_neg (by rintro ⟨_,h⟩; cases h),Nat.add_zero]
  have co:∀ {e1:EnvP},ack kFn (e1.em 10 w (aas stack) 0 0).evs (aas stack)=ack kFn e1.evs (aas stack)+1:=fun {e1} =>by
   show ack kFn (e1.evs++[_]) _=_
   rw [ab7,adn,if_pos ⟨rfl,by decide⟩]
  refine .ite (fun hb =>arc ?_ hs) fun hb =>⟨?_,hs⟩
  ·rw [aE5 hb]
   refine Lw.trans (aFT (k:=3) (x:=4294967296) (v:=(stack.dropLast,.f (aas stack))) h.d hl ht (by omega) (by omega) fun a m la hT hw hh hp w hw k =>?_) (aE9 (e:=e.pt 3 (ac4 (aap c) (aas stack)) 4294967296) (v:=(stack.dropLast,.f (aas stack))) (s:=fun _ =>.done) (aqY.em (.inl rfl)) rfl ht ?_ rfl rfl rfl (cz rfl (by decide)) (cz rfl (by decide)) co (.inr ⟨fun _ =>rfl,rfl⟩))
   ·have hw:0≤w∧w<c.tasks:=hw
    omega
   ·rw [show Jo c (e.pt 3 (ac4 (aap c) (aas stack)) 4294967296) (aas stack)=4294967296 from ars h.d hl (f:=2) (by omega) ht]
    omega
  ·refine Lw.trans (Lw.q (aET (x:=4294967296) hb) .refl) (aE9 (e:=e.cas (ac4 (aap c) (aas stack)) 0 4294967296) (v:=(stack.dropLast,.f (aas stack))) (s:=fun m =>.fg m) (aqY.em (.inl rfl)) rfl ht ?_ rfl rfl rfl (cz rfl (by decide)) (cz rfl (by decide)) co (.inl ⟨fun _ =>rfl,rfl⟩))
   intro k
   have g:(e.cas (ac4 (aap c) (aas stack)) 0 4294967296).gt (ac4 (aap c) (aas stack))=e.gt (ac4 (aap c) (aas stack)):=by rw [ao4,if_neg (fun k =>hb k.1)]
   replace k:e.gt (ac4 (aap c) (aas stack))=0:=g▸k
   apply hb
   have hrg:=aIf h.d (f:=2) (by omega) ht
   have hrg:0≤ac4 (aap c) (aas stack)∧ac4 (aap c) (aas stack)<aaL c:=hrg
   show decide ((0≤ac4 (aap c) (aas stack)∧ac4 (aap c) (aas stack)<(e.m.cells.length:Int))∧ahf e.m.cells (ac4 (aap c) (aas stack))=0)=true
   rw [decide_eq_true_iff]
   refine ⟨by omega,?_⟩
   have k2:e.m.gt (ac4 (aap c) (aas stack))=0:=k
   unfold MemV.gt at k2
   rw [if_pos (by omega)] at k2
   exact k2
 | f3 =>
  simp only [aeB]
  rw [h.l]
  refine .ite (fun hn =>⟨?_,hs⟩) fun _ =>arc (Lw.q .lk (.drop (fun x hx =>hx) (fun h =>h) (fun x k =>by cases k))) hs
  unfold IsT at hn
  rw [h.cc] at hn
  exact Lw.qr .lk (aGM h.d hn (h.p _) rfl)
 | f4 s =>
  obtain ⟨h1,h2⟩:=hr
  have h1:TOk c waiter:=h1
  have hi:¬ ¬ IsT e waiter:=by unfold IsT; rw [h.cc]; exact fun h =>h h1
  simp only [aeB]
  cases s with
  | l1 =>
   simp only [ad1]
   rw [if_neg hi,h.l]
   exact ⟨Lw.q (.since h.d) .refl,hs⟩
  | l2 =>
   simp only [ad1]
   rw [h.l]
   exact ⟨aD4 h.d hl h1,hs⟩
  | l3 =>exact ⟨Lw.q .lk .refl,hs⟩
  | l4 v0 s =>
   have:=akC (w:=w) (v:=v0) (x:=waiter) h s h2
   simp only [ad1]
   revert this
   rcases abL w v0 waiter e s with ⟨o,e'⟩
   intro this
   cases o with
   | go s =>exact ⟨Lw.q this .refl,hs⟩
   | fin c0 v1 =>
    simp only
    split
    ·exact ⟨Lw.q this .refl,hs⟩
    ·exact ⟨Lw.q this .refl,hs⟩
 | f5 v0 s =>
  have:=amq (w:=w) (v:=v0) h s
  simp only [aeB]
  revert this
  rcases aej w v0 e s with ⟨o,e'⟩
  intro this
  cases o with
  | go s =>exact ⟨Lw.q this .refl,hs⟩
  | fin c0 v0 =>exact arc (Lw.q this .refl) hs
 | f6 =>
  simp only [aeB]
  refine .ite (fun hb =>⟨ap4 h.d hl h.l hr hb,by show stack.dropLast++[waiter]≠[]; simp⟩) fun hb =>arc (Lw.q (ap3 h.d h.l hb) .refl) hs
def vwW (k:WorkS):Vw:=match k.c with
 | .t7 s =>vwR s
 | _ =>([],.n)
def avT (k:WorkS):Prop:=match k.c with
 | .t7 s =>s.stack≠[]
 | _ =>True
def aue (c:Cfg) (e:EnvP) (v:Vw) (o:WorkS×EnvP):Prop:=Lw c e o.2 v (vwW o.1)∧avT o.1
theorem aue.ite {P:Prop} [Decidable P] {a b:WorkS×EnvP} (h1:P→aue c e v a) (h2:¬ P→aue c e v b):aue c e v (if P then a else b):=by
 split
 ·exact h1 ‹_›
 ·exact h2 ‹_›
theorem aue.ite1 {P:Prop} [Decidable P] {a b:WorkS} {e':EnvP} (h1:P→aue c e v (a,e')) (h2:¬ P→aue c e v (b,e')):aue c e v (if P then a else b,e'):=by
 split
 ·exact h1 ‹_›
 ·exact h2 ‹_›
theorem azq {k:WorkS} (hk:avT k):avT { k with c:=abU w e k }∧vwW { k with c:=abU w e k }=vwW k:=by
 obtain ⟨a,b,d,x,g⟩:=k
 cases g with
 | top =>
  unfold abU
  simp only
  split
  ·exact ⟨trivial,rfl⟩
  ·exact ⟨trivial,rfl⟩
 | _ =>exact ⟨hk,rfl⟩
theorem aH3 {k:WorkS} (h:MI c e) (hl:(e.m.cells.length:Int)=aaL c) (hN:0≤e.gt 0∧e.gt 0≤1000000) (hrl:(e.recs.length:Int)=c.tasks) (hk:avU c k) (hh:avT k):aue c e (vwW k) (acH w e k):=by
 have hB:=(av7 (w:=w) h hk).1
 have hB2:=azq (w:=w) (e:=e) hh
 have z:∀ {e':EnvP},Qs c e e'→Lw c e e' ([],.n) ([],.n):=fun h =>Lw.q h .refl
 unfold acH
 revert hB hB2
 generalize abU w e k=kc
 intro h1 ⟨h2,h3⟩
 rw [← h3]
 cases kc with
 | top =>exact ⟨by rw [h3]; exact .refl,hh⟩
 | t1 t s =>
  have:=azB (w:=w) (t:=t) h s h1.2
  simp only
  revert this
  rcases aa4 w t e s with ⟨o,e'⟩
  intro this
  cases o with
  | go s =>exact ⟨z this,trivial⟩
  | fin c0 v0 =>exact ⟨z this,trivial⟩
 | t2 s =>
  cases s with
  | pop s =>
   have:=aEU (w:=w) h s
   simp only [alA]
   revert this
   rcases aim w e s with ⟨o,e'⟩
   intro this
   cases o with
   | go s =>exact ⟨z this,trivial⟩
   | fin c0 v0 =>
    simp only
    by_cases hc:c0=2
    ·rw [if_pos hc]; exact ⟨z this,trivial⟩
    ·rw [if_neg hc]; exact ⟨z this,trivial⟩
  | claim t =>
   simp only [alA]
   by_cases hb:acD t e=true
   ·rw [if_pos hb]
    exact ⟨ap4 (l:=[]) h.d hl h.l h1 hb,by show [t]≠[]; simp⟩
   ·rw [if_neg hb]
    exact ⟨z (ap3 h.d h.l hb),trivial⟩
 | t3 s =>
  have:=aBA (w:=w) h s h1
  simp only
  revert this
  rcases abT w e s with ⟨o,e'⟩
  intro this
  cases o with
  | go s =>exact ⟨z this,trivial⟩
  | fin c0 v0 =>
   refine .ite1 (fun hc =>⟨z this,trivial⟩) fun _ =>.ite1 (fun _ =>⟨z this,trivial⟩) fun _ =>?_
   unfold ay5
   split
   ·exact ⟨z this,trivial⟩
   ·exact ⟨z this,trivial⟩
 | t4 s =>
  have:=aAi (c:=c) (w:=w) (e:=e) s
  simp only
  revert this
  rcases akn w e s with ⟨o,e'⟩
  intro this
  cases o with
  | go s =>exact ⟨z this,trivial⟩
  | fin c0 v0 =>exact .ite1 (fun hc =>⟨z this,trivial⟩) fun _ =>⟨z this,trivial⟩
 | t5 s =>
  have:=azE (w:=k.victim) (v:=k.level) h s
  simp only
  rw [h.l]
  revert this
  rcases aiA (aaz (aap c) k.victim k.level) e s with ⟨o,e'⟩
  intro this
  cases o with
  | go s =>exact ⟨z this,trivial⟩
  | fin c0 v0 =>exact .ite (fun hc =>⟨z (this.em (by omega)),trivial⟩) fun _ =>.ite (fun _ =>⟨z this,trivial⟩) fun _ =>⟨z this,trivial⟩
 | t6 =>
  have h1:TOk c k.x:=h1
  simp only
  by_cases hb:acD k.x e=true
  ·rw [if_pos hb]
   exact ⟨ap4 (l:=[]) h.d hl h.l h1 hb,by show [k.x]≠[]; simp⟩
  ·rw [if_neg hb]
   exact ⟨z (ap3 h.d h.l hb),trivial⟩
 | t7 s =>
  have:=aKH (w:=w) h hl hN hrl h1 h2
  simp only
  revert this
  rcases aui w e s with ⟨o,e'⟩
  intro this
  cases o with
  | go s =>exact this
  | fin c0 v0 =>exact ⟨this.1,trivial⟩
 | t8 s =>
  have:=azN (w:=w) h s
  simp only
  revert this
  rcases agD w e s with ⟨o,e'⟩
  intro this
  cases o with
  | go s =>exact ⟨z this,trivial⟩
  | fin c0 v0 =>exact ⟨z this,trivial⟩
 | t9 s =>
  have:=awg (w:=k.victim) (v:=k.level) (a:=k.victim) (b:=k.level) h s
  simp only
  rw [h.l]
  revert this
  rcases agE (aaK (aap c) k.victim) k.level (aaz (aap c) k.victim k.level) e s with ⟨o,e'⟩
  intro this
  cases o with
  | go s =>exact ⟨z this,trivial⟩
  | fin c0 v0 =>exact ⟨z this,trivial⟩
def vwC (k:ClieS):Vw:=match k.c with
 | .n4 =>([],.p k.id)
 | .n5 =>([],.p k.id)
 | .n6 =>([],.p k.id)
 | .a6 _ =>([],.p k.id)
 | .n7 =>([],.q k.id)
 | _ =>([],.n)
theorem Lw.of_q {t:Int} {l:List Int} {v':Vw} (H:TOk c t→Lw c e e' (l,.q t) v'):Lw c e e' (l,.q t) v':=fun m vs hv h =>by
 obtain ⟨ts,la⟩:=h.la
 have:=la.ph m
 have e2:(ai5 c e ts vs).ph m=.q t:=by show (vs m).2=_; rw [hv]
 rw [e2] at this
 exact H this.1 m vs hv h
theorem aJV {k:ClieS} {me:Int} (h:MI c e) (hl:(e.m.cells.length:Int)=aaL c) (hN:0≤e.gt 0∧e.gt 0≤1000000) (hrl:(e.recs.length:Int)=c.tasks) (hk:azh c k):Lw c e (anu c.subs me e k).2.2 (vwC k) (vwC (anu c.subs me e k).2.1):=by
 have z:∀ {e':EnvP},Qs c e e'→Lw c e e' ([],.n) ([],.n):=fun h =>Lw.q h .refl
 have ite:∀ {P:Prop} [Decidable P] {a b:Bool×ClieS×EnvP} {v:Vw},(P→Lw c e a.2.2 v (vwC a.2.1))→(¬ P→Lw c e b.2.2 v (vwC b.2.1))→Lw c e (if P then a else b).2.2 v (vwC (if P then a else b).2.1):=fun h1 h2 =>by
  split
  ·exact h1 ‹_›
  ·exact h2 ‹_›
 unfold anu
 refine ite (fun _ =>.refl) fun hi =>?_
 obtain ⟨i,id,acc,g⟩:=k
 obtain ⟨h0,h1⟩:=hk
 show Lw c e (abR c.subs me e ⟨i,id,acc,g⟩ (abH c.subs i)).2.2 _ (vwC (abR c.subs me e ⟨i,id,acc,g⟩ (abH c.subs i)).2.1)
 have e1:wi (e.gt 0)=e.gt 0:=aaC (aai (by omega))
 cases g with
 | n1 =>
  simp only [abR]
  by_cases hh:e.hit 1 0=true
  ·rw [if_pos hh]; exact z (aq6 h)
  ·rw [if_neg hh]; exact z (aq6 h)
 | a1 =>
  simp only [abR]
  by_cases hh:e.hit 1 0=true
  ·rw [if_pos hh]; exact z (aq6 h)
  ·rw [if_neg hh]; exact z (aq6 h)
 | n2 =>
  simp only [abR]
  exact ite (fun _ =>Lw.em (by omega) (z .lk)) fun _ =>z .lk
 | n3 =>
  simp only [abR]
  rw [e1]
  refine ite (fun hn =>?_) fun hn =>Lw.em (by omega) ?_
  ·have hn:TOk c (e.gt 0):=by unfold IsT at hn; rw [h.cc] at hn; exact hn
   exact ayG h.d hl hN hn.2
  ·have hn:¬ TOk c (e.gt 0):=by unfold IsT at hn; rw [h.cc] at hn; exact hn
   exact aAN h.d hl hN (Int.not_lt.1 fun k =>hn ⟨hN.1,k⟩)
 | n4 =>
  simp only [abR]
  rw [h.l]
  exact Lw.q (.wr h.d (ahm h.d)) .refl
 | n5 =>
  simp only [abR]
  rw [h.l]
  exact Lw.q (.since h.d) .refl
 | n6 =>
  have h1:TOk c id:=h1
  have:=apQ (d:=(abH c.subs i).deadline) (t:=id) h .l1
  simp only [abR]
  revert this
  rcases acy (abH c.subs i).deadline id e .l1 with ⟨o,e'⟩
  intro this
  cases o with
  | go s =>exact Lw.q this .refl
  | fin c0 v0 =>exact ite (fun _ =>Lw.trans (Lw.q this .refl) (avR h1)) fun _ =>Lw.q this (.drop (fun x hx =>hx) (fun h =>h) (fun x k =>by cases k))
 | a6 s =>
  have h2:TOk c id:=h1.1
  have:=apQ (d:=(abH c.subs i).deadline) (t:=id) h s
  simp only [abR]
  revert this
  rcases acy (abH c.subs i).deadline id e s with ⟨o,e'⟩
  intro this
  cases o with
  | go s =>exact Lw.q this .refl
  | fin c0 v0 =>exact ite (fun _ =>Lw.trans (Lw.q this .refl) (avR h2)) fun _ =>Lw.q this (.drop (fun x hx =>hx) (fun h =>h) (fun x k =>by cases k))
 | n7 =>
  simp only [abR]
  rw [h.l]
  exact Lw.of_q fun ht =>aC5 h.d hl ht
 | n8 =>
  simp only [abR]
  exact ite (fun _ =>z (avp h)) fun _ =>z (avp h)
 | n9 =>
  have:=amq (w:=me) (v:=(abH c.subs i).level) h (.l1 0)
  simp only [abR]
  revert this
  rcases aej me (abH c.subs i).level e (.l1 0) with ⟨o,e'⟩
  intro this
  cases o with
  | go s =>exact z this
  | fin c0 v0 =>exact z this
 | a9 t =>
  have:=amq (w:=me) (v:=(abH c.subs i).level) h t
  simp only [abR]
  revert this
  rcases aej me (abH c.subs i).level e t with ⟨o,e'⟩
  intro this
  cases o with
  | go s =>exact z this
  | fin c0 v0 =>exact z this
end
section
variable {c:Cfg} {N:Nat} {e e':EnvP} {vs:Nat→Vw} {w:WorkerV MV} {l:ClientV MV} {v:Vw}
theorem Rz.nx (h:Rz c e e'):e'.gt 0=e.gt 0:=by
 rcases h with h | ⟨t,v,h⟩
 ·exact h.nx
 ·exact h.nx
theorem Rz.evs (h:Rz c e e'):∃ l,e'.evs=e.evs++l:=by
 rcases h with h | ⟨t,v,h⟩
 ·obtain ⟨l,hl,_⟩:=h.ev; exact ⟨l,hl⟩
 ·obtain ⟨k,w,o,l,_,hl,_⟩:=h.ev; exact ⟨_,hl⟩
theorem Tr.nx {p q:ak8} (h:Tr c e e' p q) (h0:0≤e.gt 0∧e.gt 0≤1000000):e'.gt 0≤e.gt 0+1:=by
 have al:∀ {e':EnvP},Al c e e'→e'.gt 0≤e.gt 0+1:=fun h =>by
  rcases h.nx with k | k
  ·rw [k,afo (by omega)]; omega
  ·omega
 cases h with
 | same _ h =>rw [h.nx]; omega
 | drop _ h =>rw [h.nx]; omega
 | al h =>exact al h
 | al1 _ h =>exact al h.a
 | w0 _ _ h =>rw [h.nx]; omega
 | an _ _ h =>rw [h.nx]; omega
theorem Tr.evs {p q:ak8} (h:Tr c e e' p q):∃ l,e'.evs=e.evs++l:=by
 cases h with
 | same _ h =>exact h.evs
 | drop _ h =>exact h.evs
 | al h =>obtain ⟨l,hl,_⟩:=h.ev; exact ⟨l,hl⟩
 | al1 _ h =>obtain ⟨l,hl,_⟩:=h.a.ev; exact ⟨l,hl⟩
 | w0 _ _ h =>exact ⟨[],by rw [h.ev]; simp⟩
 | an _ _ h =>obtain ⟨l,k,w,o,_,_,hl⟩:=h.ev; exact ⟨_,by rw [hl,List.append_assoc]⟩
structure DL (c:Cfg) (N:Nat) (e:EnvP) (vs:Nat→Vw):Prop where
 ei:EI c (1+3*N) e
 m:MI c e
 n:(e.m.cells.length:Int)=aaL c
 nx:e.gt 0≤N
 li:LI c e vs
def WL (c:Cfg) (N:Nat) (j:Int) (w:WorkerV MV) (v:Vw):Prop:=∃ k,w=ai6 (aap c) j k∧ai4 (1+3*N) (mnC c) k∧avU c k∧avT k∧vwW k=v
theorem WL.next {j:Int} (hw:WL c N j w v):WL c (N+1) j w v:=by
 obtain ⟨k,h1,h2,h3⟩:=hw
 exact ⟨k,h1,h2.up (by omega),h3⟩
theorem DL.next (h:DL c N e vs):DL c (N+1) e vs:=⟨h.ei.up (by omega),h.m,h.n,by have:=h.nx; omega,h.li⟩
theorem DL.clk {k:ClkV} (h:DL c N e vs):DL c N { e with k:=k } vs:=by
 obtain ⟨rl,ts,la⟩:=h.li
 exact ⟨h.ei.clk,h.m.ex,h.n,h.nx,rl,ts,la⟩
theorem DL.stp (h:DL c N e vs) (hN:N≤100000) (s:Stp 2 e e') {p q:ak8} (t:Tr c e e' p q) {m:Nat} {v':Vw} (x:Lw c e e' (vs m) v'):DL c (N+1) e' (ahX vs m v'):=by
 have s1:=h.ei.stp (by omega) s
 have en:1+3*N+3=1+3*(N+1):=by omega
 rw [en] at s1
 have h0:=h.m.p 0
 have h1:=h.nx
 have h2:=t.nx ⟨h0,by omega⟩
 exact ⟨s1,t.i,by rw [(aEO s.m h.ei.ct (by omega)).2]; exact h.n,by omega,x m vs rfl h.li⟩
theorem aBR (h:DecOk c):((anK c).m.cells.length:Int)=aaL c:=by
 show ((List.replicate (aaL c).toNat (0:Int)).length:Int)=_
 have:=aeR h
 have h4:=h.h
 have h5:=h.t
 rw [List.length_replicate]
 have:0≤aaL c:=by unfold aaL; omega
 omega
theorem aJO (h:DecOk c):DL c 0 (anK c) fun _ =>([],.n):=by
 have ht:=h.t
 refine ⟨aJN h,aJb h,aBR h,by rw [asp]; exact Int.le_refl 0,?_,fun _ =>.fresh,?_⟩
 ·show ((List.replicate c.tasks.toNat _).length:Int)=_
  rw [List.length_replicate]; omega
 ·have e1:ai5 c (anK c) (fun _ =>.fresh) (fun _ =>([],.n))=⟨c.tasks,0,fun _ =>0,fun _ =>0,rcw (anK c),rcs (anK c),fun _ =>0,fun _ =>0,fun _ =>0,fun _ =>.fresh,fun _ =>[],fun _ =>.n⟩:=by
   unfold ai5
   rw [asp,show Stt c (anK c)=fun _ =>0 from funext fun t =>asp,show Jo c (anK c)=fun _ =>0 from funext fun t =>asp]
   rfl
  rw [e1]
  refine aJi fun t h0 h1 =>?_
  show (if 0≤t then ((anK c).rc t).started else false)=false
  rw [if_pos h0]
  have:(anK c).rc t=awl:=List.eq_of_mem_replicate (ar2 (α:=RecP) (d:=(dfR 26:TR 26)) ⟨h0,by show t<((List.replicate c.tasks.toNat awl).length:Int); rw [List.length_replicate]; omega⟩)
  rw [this]; rfl
structure EngI (c:Cfg) (I:Nat→EnvP→List (WorkerV MV)→ClientV MV→Prop):Prop where
 w:∀ {N:Nat} {e:EnvP} {ws:List (WorkerV MV)} {cl:ClientV MV} {j:Nat} {w:WorkerV MV},I N e ws cl→N≤100000→ws[j]?=some w→aaD (aaj w e) fun o =>I (N+1) o.2.2.1 (ws.set j o.2.1) cl∧∃ l,o.2.2.1.evs=e.evs++l
 c:∀ {N:Nat} {e:EnvP} {ws:List (WorkerV MV)} {cl:ClientV MV},I N e ws cl→N≤100000→aaD (aau cl e) fun o =>I (N+1) o.2.2.1 ws o.2.1∧∃ l,o.2.2.1.evs=e.evs++l
 n:∀ {N:Nat} {e:EnvP} {ws:List (WorkerV MV)} {cl:ClientV MV},I N e ws cl→I (N+1) e ws cl
 k:∀ {N:Nat} {e:EnvP} {ws:List (WorkerV MV)} {cl:ClientV MV} {k:ClkV},I N e ws cl→I N { e with k:=k } ws cl
 ev:∀ {N:Nat} {e:EnvP} {ws:List (WorkerV MV)} {cl:ClientV MV},I N e ws cl→e.evs.length≤1+3*N
theorem aE6 {α:Type} {ws:List α} {j:Nat} {w:α} (h:ws[j]?=some w):j<ws.length:=by
 rcases Nat.lt_or_ge j ws.length with k | k
 ·exact k
 ·rw [List.getElem?_eq_none k] at h; cases h
end
end
section
inductive WS where
 | no
 | set (u:Int)
 | wk (u T:Int) (m:Int)
 | st (u T:Int)
structure IA where
 L:Int→Int
 dn:Int→Prop
 U:Int→WS
inductive CZ (a:IA) (Z:Int→Prop) (p:Int):Int→Prop
 | z {x:Int}:Z x→CZ a Z p x
 | d {x:Int}:a.dn x→CZ a Z p x
 | n {x:Int}:p≤a.L x→a.U x=.no→CZ a Z p x
 | s {x u:Int}:p≤a.L x→a.U x=.set u→CZ a Z p x
 | k {x u T:Int} {m:Int}:p≤a.L x→a.U x=.wk u T m→p≤T→CZ a Z p x
 | t {x u T:Int}:p≤a.L x→a.U x=.st u T→p≤T→CZ a Z p x
 | k2 {x u T:Int} {m:Int}:p≤a.L x→a.U x=.wk u T m→CZ a Z p u→CZ a Z p x
 | t2 {x u T:Int}:p≤a.L x→a.U x=.st u T→CZ a Z p u→CZ a Z p x
abbrev CV (a:IA) (p x:Int):Prop:=CZ a (fun _ =>False) p x
section
variable {a b:IA} {Z Y:Int→Prop} {p q x y u T:Int}
theorem CZ.low (h:CZ a Z p x) (hq:q≤p):CZ a Z q x:=by
 induction h with
 | z h =>exact .z h
 | d h =>exact .d h
 | n h1 h2 =>exact .n (Int.le_trans hq h1) h2
 | s h1 h2 =>exact .s (Int.le_trans hq h1) h2
 | k h1 h2 h3 =>exact .k (Int.le_trans hq h1) h2 (Int.le_trans hq h3)
 | t h1 h2 h3 =>exact .t (Int.le_trans hq h1) h2 (Int.le_trans hq h3)
 | k2 h1 h2 _ ih =>exact .k2 (Int.le_trans hq h1) h2 ih
 | t2 h1 h2 _ ih =>exact .t2 (Int.le_trans hq h1) h2 ih
theorem CZ.sub (h:CZ a Z p x) (hz:∀ y,Z y→CZ a Y p y):CZ a Y p x:=by
 induction h with
 | z h =>exact hz _ h
 | d h =>exact .d h
 | n h1 h2 =>exact .n h1 h2
 | s h1 h2 =>exact .s h1 h2
 | k h1 h2 h3 =>exact .k h1 h2 h3
 | t h1 h2 h3 =>exact .t h1 h2 h3
 | k2 h1 h2 _ ih =>exact .k2 h1 h2 ih
 | t2 h1 h2 _ ih =>exact .t2 h1 h2 ih
inductive UP (L:Int):WS→WS→Prop
 | same (s:WS):UP L s s
 | no (s:WS):UP L s .no
 | set (u:Int):UP L .no (.set u)
 | load (u:Int) (m:Int) {T:Int}:L≤T→UP L (.set u) (.wk u T m)
 | settle (u T:Int) (m:Int):UP L (.wk u T m) (.st u T)
structure IP (a b:IA):Prop where
 L:∀ x,a.L x≤b.L x
 dn:∀ x,a.dn x→b.dn x
 U:∀ x,UP (a.L x) (a.U x) (b.U x)
theorem IP.refl:IP a a:=⟨fun _ =>Int.le_refl _,fun _ h =>h,fun _ =>.same _⟩
theorem CZ.step (h:CZ a Z p x) (s:IP a b):CZ b Z p x:=by
 induction h with
 | z h =>exact .z h
 | d h =>exact .d (s.dn _ h)
 | @n x h1 h2 =>
  have hl:=Int.le_trans h1 (s.L x)
  have hu:=s.U x
  rw [h2] at hu
  generalize hw:b.U x=w at hu
  cases hu with
  | same _ =>exact .n hl hw
  | no _ =>exact .n hl hw
  | set u =>exact .s hl hw
 | @s x u h1 h2 =>
  have hl:=Int.le_trans h1 (s.L x)
  have hu:=s.U x
  rw [h2] at hu
  generalize hw:b.U x=w at hu
  cases hu with
  | same _ =>exact .s hl hw
  | no _ =>exact .n hl hw
  | load _ m hT =>exact .k hl hw (Int.le_trans h1 hT)
 | @k x u T m h1 h2 h3 =>
  have hl:=Int.le_trans h1 (s.L x)
  have hu:=s.U x
  rw [h2] at hu
  generalize hw:b.U x=w at hu
  cases hu with
  | same _ =>exact .k hl hw h3
  | no _ =>exact .n hl hw
  | settle _ _ _ =>exact .t hl hw h3
 | @t x u T h1 h2 h3 =>
  have hl:=Int.le_trans h1 (s.L x)
  have hu:=s.U x
  rw [h2] at hu
  generalize hw:b.U x=w at hu
  cases hu with
  | same _ =>exact .t hl hw h3
  | no _ =>exact .n hl hw
 | @k2 x u T m h1 h2 _ ih =>
  have hl:=Int.le_trans h1 (s.L x)
  have hu:=s.U x
  rw [h2] at hu
  generalize hw:b.U x=w at hu
  cases hu with
  | same _ =>exact .k2 hl hw ih
  | no _ =>exact .n hl hw
  | settle _ _ _ =>exact .t2 hl hw ih
 | @t2 x u T h1 h2 _ ih =>
  have hl:=Int.le_trans h1 (s.L x)
  have hu:=s.U x
  rw [h2] at hu
  generalize hw:b.U x=w at hu
  cases hu with
  | same _ =>exact .t2 hl hw ih
  | no _ =>exact .n hl hw
theorem CZ.fin (h:CZ a (·=y) p x) (h1:p≤a.L y) (h2:a.U y=.no):CV a p x:=h.sub fun w hw =>by subst hw; exact .n h1 h2
theorem CZ.next (h:CZ a (·=y) p x) (h1:p≤a.L y) (h2:a.U y=.no∨a.U y=.set u∨(∃ T m,a.U y=.wk u T m)∨∃ T,a.U y=.st u T):CZ a (·=u) p x:=h.sub fun w hw =>by
 subst hw
 rcases h2 with h2 | h2 | ⟨T,m,h2⟩ | ⟨T,h2⟩
 ·exact .n h1 h2
 ·exact .s h1 h2
 ·exact .k2 h1 h2 (.z rfl)
 ·exact .t2 h1 h2 (.z rfl)
def IA.ok (a:IA):Prop:=∀ x u T,a.U x=.st u T→CV a T u
inductive Chain (a:IA) (u:Int):Int→Prop
 | here:Chain a u u
 | next {x v T:Int}:Chain a u x→a.U x=.st v T→Chain a u v
theorem CV.cov (h:CV a p x) (hd:∀ y,a.dn y→a.U y=.no) (hk:a.ok):a.dn x∨(p≤a.L x∧∀ v T,a.U x=.st v T→CV a p v):=by
 cases h with
 | z h =>exact h.elim
 | d h =>exact .inl h
 | n h1 h2 =>exact .inr ⟨h1,fun v T e =>by rw [h2] at e; cases e⟩
 | s h1 h2 =>exact .inr ⟨h1,fun v T e =>by rw [h2] at e; cases e⟩
 | k h1 h2 h3 =>exact .inr ⟨h1,fun v T e =>by rw [h2] at e; cases e⟩
 | t h1 h2 h3 =>exact .inr ⟨h1,fun v T e =>by rw [h2] at e; cases e; exact (hk _ _ _ h2).low h3⟩
 | k2 h1 h2 h3 =>exact .inr ⟨h1,fun v T e =>by rw [h2] at e; cases e⟩
 | t2 h1 h2 h3 =>exact .inr ⟨h1,fun v T e =>by rw [h2] at e; cases e; exact h3⟩
theorem aEj (hd:∀ y,a.dn y→a.U y=.no) (hk:a.ok) (h:CV a p u) {y:Int} (hc:Chain a u y):CV a p y:=by
 induction hc with
 | here =>exact h
 | @next x v T hc e ih =>
  rcases ih.cov hd hk with g | ⟨_,g⟩
  ·rw [hd _ g] at e; cases e
  ·exact g _ _ e
end
inductive Iv where
 | n
 | j2 (t u:Int)
 | j4 (t u:Int)
 | j5 (t u T z:Int) (r:Bool)
def WS.ch:WS→Option Int
 | .no =>none
 | .set u =>some u
 | .wk u _ _ =>some u
 | .st u _ =>some u
structure IvS where
 a:IA
 W:Int→Int
 ew:Int→Option (Int×Int×Option Int)
 vi:Int→Iv
def afM {α:Type} (f:Int→α) (i:Int) (v:α) (x:Int):α:=if x=i then v else f x
def anN {α:Type} (f:Int→α) (i:Int) (v:α) (x:Int):α:=if x=i then v else f x
theorem abe {α:Type} {f:Int→α} {i:Int} {v:α}:afM f i v i=v:=if_pos rfl
theorem abf {α:Type} {f:Int→α} {i x:Int} {v:α} (h:x≠i):afM f i v x=f x:=if_neg h
theorem ahE {α:Type} {f:Int→α} {i:Int} {v:α}:anN f i v i=v:=if_pos rfl
theorem aig {α:Type} {f:Int→α} {i x:Int} {v:α} (h:x≠i):anN f i v x=f x:=if_neg h
structure IV2 (s:IvS):Prop where
 g1:∀ t u m T,s.ew t=some (u,m,some T)→s.a.U t=.st u T
 g2:∀ t u T m,s.a.U t=.wk u T m→s.ew t=some (u,m,none)∧∃ z r,s.vi m=.j5 t u T z r
 g3:∀ t u m,s.ew t=some (u,m,none)→(s.vi m=.j4 t u∧s.a.U t=.set u)∨∃ T z r,s.vi m=.j5 t u T z r∧s.a.U t=.wk u T m
 g4:∀ t u,(s.a.U t).ch=some u→s.W t=u+1
 g5:∀ t u T,s.a.U t=.st u T→∃ m,s.ew t=some (u,m,some T)
 ok:s.a.ok
 wk:∀ m t u T z r,s.vi m=.j5 t u T z r→s.a.U t=.wk u T m→CZ s.a (·=z) T u∧(r=true→T≤s.a.L z)
 dn:∀ y,s.a.dn y→s.a.U y=.no
section
variable {s:IvS}
theorem aAL {a b:IA} (h:a.ok) (hp:IP a b) (hn:∀ x u T,b.U x=.st u T→a.U x=.st u T):b.ok:=fun x u T e =>(h x u T (hn x u T e)).step hp
theorem IV2.up (h:IV2 s) {L:Int→Int} (hl:∀ x,s.a.L x≤L x):IV2 { s with a:={ s.a with L:=L } }:=by
 have hp:IP s.a { s.a with L:=L }:=⟨hl,fun _ h =>h,fun _ =>.same _⟩
 exact ⟨h.g1,h.g2,h.g3,h.g4,h.g5,aAL h.ok hp fun _ _ _ e =>e,fun m t u T z r e1 e2 =>⟨(h.wk m t u T z r e1 e2).1.step hp,fun hr =>Int.le_trans ((h.wk m t u T z r e1 e2).2 hr) (hl z)⟩,h.dn⟩
theorem IV2.fin (h:IV2 s) {t:Int} (ht:s.a.U t=.no):IV2 { s with a:={ s.a with dn:=fun x =>x=t∨s.a.dn x } }:=by
 have hp:IP s.a { s.a with dn:=fun x =>x=t∨s.a.dn x }:=⟨fun _ =>Int.le_refl _,fun _ h =>.inr h,fun _ =>.same _⟩
 refine ⟨h.g1,h.g2,h.g3,h.g4,h.g5,aAL h.ok hp fun _ _ _ e =>e,fun m t u T z r e1 e2 =>⟨(h.wk m t u T z r e1 e2).1.step hp,(h.wk m t u T z r e1 e2).2⟩,fun y hy =>?_⟩
 rcases hy with rfl | hy
 ·exact ht
 ·exact h.dn y hy
theorem IV2.chg (h:IV2 s) {t:Int} {w:WS} {W:Int→Int} {o:Option (Int×Int×Option Int)} {m:Int} {v:Iv}
  (hu:UP (s.a.L t) (s.a.U t) w) (hW:∀ x,x≠t→(s.a.U x).ch≠none→W x=s.W x) (hWt:∀ u,w.ch=some u→W t=u+1)
  (c1:∀ u k T,o=some (u,k,some T)→w=.st u T) (c5:∀ u T,w=.st u T→(∃ k,o=some (u,k,some T))∧CV s.a T u)
  (c2:∀ u T k,w=.wk u T k→o=some (u,k,none)∧∃ z r,anN s.vi m v k=.j5 t u T z r)
  (c3:∀ u k,o=some (u,k,none)→(anN s.vi m v k=.j4 t u∧w=.set u)∨∃ T z r,anN s.vi m v k=.j5 t u T z r∧w=.wk u T k)
  (cw:∀ t' u T z r,v=.j5 t' u T z r→afM s.a.U t w t'=.wk u T m→CZ s.a (·=z) T u∧(r=true→T≤s.a.L z))
  (ck:∀ u T k,w=.wk u T k→k=m∨w=s.a.U t) (cm:∀ x u,x≠t→s.ew x=some (u,m,none)→False) (hd:¬ s.a.dn t) :
  IV2 { a:={ s.a with U:=afM s.a.U t w },W:=W,ew:=afM s.ew t o,vi:=anN s.vi m v }:=by
 have hp:IP s.a { s.a with U:=afM s.a.U t w }:=⟨fun _ =>Int.le_refl _,fun _ h =>h,fun x =>by
  by_cases hx:x=t
  ·subst hx; rw [show ({ s.a with U:=afM s.a.U x w }:IA).U x=w from abe]; exact hu
  ·rw [show ({ s.a with U:=afM s.a.U t w }:IA).U x=s.a.U x from abf hx]; exact .same _⟩
 refine ⟨fun x u k T e =>?_,fun x u T k e =>?_,fun x u k e =>?_,fun x u e =>?_,fun x u T e =>?_,fun x u T e =>?_,fun k x u T z r e1 e2 =>?_,fun y hy =>?_⟩
 ·by_cases hx:x=t
  ·subst hx
   simp only [abe] at e ⊢
   exact c1 u k T e
  ·simp only [abf hx] at e ⊢
   exact h.g1 x u k T e
 ·by_cases hx:x=t
  ·subst hx
   simp only [abe] at e ⊢
   exact c2 u T k e
  ·simp only [abf hx] at e ⊢
   obtain ⟨e1,z,r,e2⟩:=h.g2 x u T k e
   have hk:k≠m:=fun hk =>cm x u hx (hk▸e1)
   exact ⟨e1,z,r,by rw [aig hk]; exact e2⟩
 ·by_cases hx:x=t
  ·subst hx
   simp only [abe] at e ⊢
   exact c3 u k e
  ·simp only [abf hx] at e ⊢
   have hk:k≠m:=fun hk =>cm x u hx (hk▸e)
   rw [aig hk]
   exact h.g3 x u k e
 ·by_cases hx:x=t
  ·subst hx
   simp only [abe] at e ⊢
   exact hWt u e
  ·simp only [abf hx] at e ⊢
   rw [hW x hx (by rw [e]; exact fun k =>by cases k)]
   exact h.g4 x u e
 ·by_cases hx:x=t
  ·subst hx
   simp only [abe] at e ⊢
   exact (c5 u T e).1
  ·simp only [abf hx] at e ⊢
   exact h.g5 x u T e
 ·by_cases hx:x=t
  ·subst hx
   simp only [abe] at e
   exact (c5 u T e).2.step hp
  ·simp only [abf hx] at e
   exact (h.ok x u T e).step hp
 ·by_cases hk:k=m
  ·subst hk
   simp only [ahE] at e1
   exact ⟨(cw x u T z r e1 e2).1.step hp,(cw x u T z r e1 e2).2⟩
  ·simp only [aig hk] at e1
   by_cases hx:x=t
   ·subst hx
    simp only [abe] at e2
    rcases ck u T k e2 with g | g
    ·exact absurd g hk
    ·rw [e2] at g
     exact ⟨(h.wk k x u T z r e1 g.symm).1.step hp,(h.wk k x u T z r e1 g.symm).2⟩
   ·simp only [abf hx] at e2
    exact ⟨(h.wk k x u T z r e1 e2).1.step hp,(h.wk k x u T z r e1 e2).2⟩
 ·have hy:s.a.dn y:=hy
  have hyt:y≠t:=fun e =>hd (e▸hy)
  simp only [abf hyt]
  exact h.dn y hy
theorem WS.no_or (w:WS):w=.no∨∃ u,w.ch=some u:=by
 cases w with
 | no =>exact .inl rfl
 | set u =>exact .inr ⟨u,rfl⟩
 | wk u T m =>exact .inr ⟨u,rfl⟩
 | st u T =>exact .inr ⟨u,rfl⟩
theorem IV2.free (h:IV2 s) {m:Int} (hv:s.vi m=.n∨∃ t u,s.vi m=.j2 t u):∀ x u,s.ew x=some (u,m,none)→False:=fun x u e =>by
 rcases h.g3 x u m e with ⟨e1,_⟩ | ⟨T,z,r,e1,_⟩<;>rw [e1] at hv<;>(rcases hv with k | ⟨_,_,k⟩<;>cases k)
theorem IV2.view (h:IV2 s) {m:Int} {v:Iv} (hm:∀ x u,s.ew x=some (u,m,none)→False):IV2 { s with vi:=anN s.vi m v }:=by
 refine ⟨h.g1,fun t u T k e =>?_,fun t u k e =>?_,h.g4,h.g5,h.ok,fun k t u T z r e1 e2 =>?_,h.dn⟩
 ·obtain ⟨e1,z,r,e2⟩:=h.g2 t u T k e
  have hk:k≠m:=fun hk =>hm t u (hk▸e1)
  exact ⟨e1,z,r,by show anN s.vi m v k=_; rw [aig hk]; exact e2⟩
 ·have hk:k≠m:=fun hk =>hm t u (hk▸e)
  show (anN s.vi m v k=_∧_)∨∃ T z r,anN s.vi m v k=_∧_
  rw [aig hk]
  exact h.g3 t u k e
 ·by_cases hk:k=m
  ·subst hk
   exact absurd (h.g2 t u T k e2).1 fun e =>hm t u e
  ·have e1:anN s.vi m v k=_:=e1
   rw [aig hk] at e1
   exact h.wk k t u T z r e1 e2
theorem IV2.walk (h:IV2 s) {m:Int} {t u T z y:Int} {r r':Bool} (hv:s.vi m=.j5 t u T z r) (hw:s.a.U t=.wk u T m→CZ s.a (·=y) T u∧(r'=true→T≤s.a.L y)):IV2 { s with vi:=anN s.vi m (.j5 t u T y r') }:=by
 refine ⟨h.g1,fun t' u' T' k e =>?_,fun t' u' k e =>?_,h.g4,h.g5,h.ok,fun k t' u' T' z' q e1 e2 =>?_,h.dn⟩
 ·obtain ⟨e1,z',q,e2⟩:=h.g2 t' u' T' k e
  by_cases hk:k=m
  ·subst hk
   rw [hv] at e2
   cases e2
   exact ⟨e1,y,r',ahE⟩
  ·exact ⟨e1,z',q,by show anN s.vi m _ k=_; rw [aig hk]; exact e2⟩
 ·rcases h.g3 t' u' k e with ⟨e1,e2⟩ | ⟨T',z',q,e1,e2⟩
  ·have hk:k≠m:=fun hk =>by rw [hk,hv] at e1; cases e1
   exact .inl ⟨by show anN s.vi m _ k=_; rw [aig hk]; exact e1,e2⟩
  ·by_cases hk:k=m
   ·subst hk
    rw [hv] at e1
    cases e1
    exact .inr ⟨T,y,r',ahE,e2⟩
   ·exact .inr ⟨T',z',q,by show anN s.vi m _ k=_; rw [aig hk]; exact e1,e2⟩
 ·by_cases hk:k=m
  ·subst hk
   have e1:anN s.vi k (.j5 t u T y r') k=_:=e1
   rw [ahE] at e1
   cases e1
   exact hw e2
  ·have e1:anN s.vi m _ k=_:=e1
   rw [aig hk] at e1
   exact h.wk k t' u' T' z' q e1 e2
theorem IV2.raised (h:IV2 s) {m:Int} {t u T z:Int} {r:Bool} (hv:s.vi m=.j5 t u T z r) (hl:T≤s.a.L z):IV2 { s with vi:=anN s.vi m (.j5 t u T z true) }:=h.walk hv fun e =>⟨(h.wk m t u T z r hv e).1,fun _ =>hl⟩
theorem IV2.next (h:IV2 s) {m:Int} {t u T z y:Int} (hv:s.vi m=.j5 t u T z true) (hW:s.W z=y+1):IV2 { s with vi:=anN s.vi m (.j5 t u T y false) }:=h.walk hv fun e =>by
 obtain ⟨h1,h2⟩:=h.wk m t u T z true hv e
 refine ⟨h1.next (h2 rfl) ?_,fun k =>by cases k⟩
 have g:=h.g4 z
 cases hu:s.a.U z with
 | no =>exact .inl rfl
 | set c =>have:=g c (by rw [hu]; rfl); exact .inr (.inl (by rw [show c=y by omega]))
 | wk c T' m' =>have:=g c (by rw [hu]; rfl); exact .inr (.inr (.inl ⟨T',m',by rw [show c=y by omega]⟩))
 | st c T' =>have:=g c (by rw [hu]; rfl); exact .inr (.inr (.inr ⟨T',by rw [show c=y by omega]⟩))
theorem IV2.begin (h:IV2 s) {m:Int} {t u:Int} (hv:s.vi m=.n) (ht:s.a.U t=.no) (he:s.ew t=none) (hd:¬ s.a.dn t):IV2 { a:={ s.a with U:=afM s.a.U t (.set u) },W:=afM s.W t (u+1),ew:=afM s.ew t none,vi:=anN s.vi m (.j2 t u) } :=
 h.chg (by rw [ht]; exact .set u) (fun x hx _ =>abf hx) (fun c e =>by cases e; exact abe) (fun _ _ _ e =>by cases e) (fun _ _ e =>by cases e) (fun _ _ _ e =>by cases e) (fun _ _ e =>by cases e) (fun _ _ _ _ _ e =>by cases e) (fun _ _ _ e =>by cases e) (fun x u _ e =>h.free (.inl hv) x u e) hd
theorem IV2.miss (h:IV2 s) {m:Int} {t u x:Int} (hv:s.vi m=.j2 t u) (hd:¬ s.a.dn t):IV2 { a:={ s.a with U:=afM s.a.U t .no },W:=afM s.W t x,ew:=afM s.ew t none,vi:=anN s.vi m .n } :=
 h.chg (.no _) (fun x hx _ =>abf hx) (fun c e =>by cases e) (fun _ _ _ e =>by cases e) (fun _ _ e =>by cases e) (fun _ _ _ e =>by cases e) (fun _ _ e =>by cases e) (fun _ _ _ _ _ e =>by cases e) (fun _ _ _ e =>by cases e) (fun x u _ e =>h.free (.inr ⟨_,_,hv⟩) x u e) hd
theorem IV2.tell (h:IV2 s) {m:Int} {t u:Int} (hv:s.vi m=.j2 t u) (ht:s.a.U t=.set u) (hd:¬ s.a.dn t):IV2 { a:={ s.a with U:=afM s.a.U t (.set u) },W:=s.W,ew:=afM s.ew t (some (u,m,none)),vi:=anN s.vi m (.j4 t u) } :=
 h.chg (by rw [ht]; exact .same _) (fun x hx _ =>rfl) (fun c e =>h.g4 t c (by rw [ht]; exact e)) (fun _ _ _ e =>by cases e) (fun _ _ e =>by cases e) (fun _ _ _ e =>by cases e) (fun c k e =>by cases e; exact .inl ⟨ahE,rfl⟩) (fun _ _ _ _ _ e =>by cases e) (fun _ _ _ e =>by cases e) (fun x u _ e =>h.free (.inr ⟨_,_,hv⟩) x u e) hd
theorem IV2.load (h:IV2 s) {m:Int} {t u c:Int} (hv:s.vi m=.j4 t u) (he:s.ew t=some (c,m,none)) (hd:¬ s.a.dn t):IV2 { a:={ s.a with U:=afM s.a.U t (.wk u (s.a.L t) m) },W:=s.W,ew:=afM s.ew t (some (u,m,none)),vi:=anN s.vi m (.j5 t u (s.a.L t) u false) }:=by
 have hu:s.a.U t=.set u:=by
  rcases h.g3 t c m he with ⟨e1,e2⟩ | ⟨T,z,r,e1,_⟩
  ·rw [hv] at e1; cases e1; exact e2
  ·rw [hv] at e1; cases e1
 refine h.chg (by rw [hu]; exact .load u m (Int.le_refl _)) (fun x hx _ =>rfl) (fun c e =>h.g4 t c (by rw [hu]; exact e)) (fun _ _ _ e =>by cases e) (fun _ _ e =>by cases e) (fun c T k e =>by cases e; exact ⟨rfl,u,false,ahE⟩) (fun c k e =>by cases e; exact .inr ⟨_,u,false,ahE,rfl⟩) (fun t' u' T z r e _ =>by cases e; exact ⟨.z rfl,fun k =>by cases k⟩) (fun c T k e =>by cases e; exact .inl rfl) (fun x w hx e =>?_) hd
 rcases h.g3 x w m e with ⟨e1,_⟩ | ⟨T,z,r,e1,_⟩
 ·rw [hv] at e1; cases e1; exact hx rfl
 ·rw [hv] at e1; cases e1
theorem IV2.settle (h:IV2 s) {m:Int} {t u T z c:Int} (hv:s.vi m=.j5 t u T z true) (hz:s.a.U z=.no) (he:s.ew t=some (c,m,none)) (hd:¬ s.a.dn t):c=u∧IV2 { a:={ s.a with U:=afM s.a.U t (.st u T) },W:=s.W,ew:=afM s.ew t (some (u,m,some T)),vi:=anN s.vi m .n }:=by
 have hu:s.a.U t=.wk u T m∧c=u:=by
  rcases h.g3 t c m he with ⟨e1,e2⟩ | ⟨T',z',r,e1,e2⟩
  ·rw [hv] at e1; cases e1
  ·rw [hv] at e1; cases e1; exact ⟨e2,rfl⟩
 obtain ⟨h1,h2⟩:=h.wk m t u T z true hv hu.1
 refine ⟨hu.2,h.chg (by rw [hu.1]; exact .settle u T m) (fun x hx _ =>rfl) (fun c e =>h.g4 t c (by rw [hu.1]; exact e)) (fun c k T' e =>by cases e; rfl) (fun c T' e =>by cases e; exact ⟨⟨m,rfl⟩,h1.fin (h2 rfl) hz⟩) (fun _ _ _ e =>by cases e) (fun _ _ e =>by cases e) (fun _ _ _ _ _ e =>by cases e) (fun _ _ _ e =>by cases e) (fun x w hx e =>?_) hd⟩
 rcases h.g3 x w m e with ⟨e1,_⟩ | ⟨T',z',r,e1,_⟩
 ·rw [hv] at e1; cases e1
 ·rw [hv] at e1; cases e1; exact hx rfl
theorem IV2.resume (h:IV2 s) {m:Int} {t:Int} {W:Int→Int} (hv:s.vi m=.n) (hW:∀ x,x≠t→W x=s.W x) (hd:¬ s.a.dn t):IV2 { a:={ s.a with U:=afM s.a.U t .no },W:=W,ew:=afM s.ew t none,vi:=anN s.vi m .n } :=
 h.chg (.no _) (fun x hx _ =>hW x hx) (fun c e =>by cases e) (fun _ _ _ e =>by cases e) (fun _ _ e =>by cases e) (fun _ _ _ e =>by cases e) (fun _ _ e =>by cases e) (fun _ _ _ _ _ e =>by cases e) (fun _ _ _ e =>by cases e) (fun x u _ e =>h.free (.inl hv) x u e) hd
theorem IV2.floor (h:IV2 s) {t u T y:Int} {k:Int} (he:s.ew t=some (u,k,some T)) (hc:Chain s.a u y):s.a.dn y∨T≤s.a.L y:=by
 have h1:=h.ok t u T (h.g1 t u k T he)
 have h2:=aEj h.dn h.ok h1 hc
 exact (h2.cov h.dn h.ok).imp id And.left
end
end
section
open Go Go.RowKit
set_option maxRecDepth 100000
variable [Tb]
def aGO (t d:Int) (x:Ev):Int:=if x.task=t∧(x.kind=1∨x.kind=3∨x.kind=11∨x.kind=12) then x.level else d
def lev (l:List Ev) (t:Int):Int:=l.foldl (aGO t) (-1)
abbrev EW:=Option (Int×Int×Option Int)
def ewF (t:Int) (d:EW) (x:Ev):EW :=
 if x.task=t∧x.kind=6 then some (x.other,x.worker,none)
 else if x.task=t∧x.kind=7 then match d with
  | some (u,m,none) =>if m=x.worker then some (u,m,some x.level) else d
  | _ =>d
 else if x.task=t∧x.kind=9 then none else d
def ewt (l:List Ev) (t:Int):EW:=l.foldl (ewF t) none
def fnE (l:List Ev) (t:Int):Prop:=ack kFn l t≠0
def anE (l:List Ev) (t:Int):Prop:=ack kKn l t≠0
def NoL (x:Ev):Prop:=x.kind≠1∧x.kind≠3∧x.kind≠11∧x.kind≠12
def NoW (x:Ev):Prop:=x.kind≠6∧x.kind≠7∧x.kind≠9∧x.kind≠10
section
variable {c:Cfg} {l m:List Ev} {x:Ev} {t u:Int}
theorem aAY:lev (l++m) t=m.foldl (aGO t) (lev l t):=List.foldl_append
theorem aBm:ewt (l++m) t=m.foldl (ewF t) (ewt l t):=List.foldl_append
theorem aom:lev (l++[x]) t=aGO t (lev l t) x:=aAY
theorem aea:ewt (l++[x]) t=ewF t (ewt l t) x:=aBm
theorem aGN {d:Int} (h:NoL x):aGO t d x=d:=if_neg fun k =>by unfold NoL at h; omega
theorem aJI {d:EW} (h:NoW x):ewF t d x=d:=by
 unfold ewF NoW at *
 rw [if_neg (fun k =>h.1 k.2),if_neg (fun k =>h.2.1 k.2),if_neg (fun k =>h.2.2.1 k.2)]
theorem aAZ {d:Int} (h:x.task≠t):aGO t d x=d:=if_neg fun k =>h k.1
theorem akR {d:EW} (h:x.task≠t):ewF t d x=d:=by
 unfold ewF
 rw [if_neg (fun k =>h k.1),if_neg (fun k =>h k.1),if_neg (fun k =>h k.1)]
theorem awT {α:Type} {f:α→Ev→α} {P:Ev→Prop} (hf:∀ d x,P x→f d x=d):∀ {m:List Ev} {d:α},(∀ x∈m,P x)→m.foldl f d=d
 | [],_,_ =>rfl
 | x::m,d,h =>by
  show m.foldl f (f d x)=d
  rw [hf d x (h x (List.mem_cons_self ..))]
  exact awT hf fun y hy =>h y (List.mem_cons_of_mem _ hy)
theorem ane (h:∀ x∈m,NoL x):lev (l++m) t=lev l t:=by rw [aAY]; exact awT (fun _ _ =>aGN) h
theorem aeH (h:∀ x∈m,NoW x):ewt (l++m) t=ewt l t:=by rw [aBm]; exact awT (fun _ _ =>aJI) h
theorem asr (h:∀ x∈m,NoW x):fnE (l++m) t↔fnE l t:=by
 unfold fnE
 rw [ab7,apZ (l:=m) fun x hx _ =>?_,Nat.add_zero]
 have:=(h x hx).2.2.2
 unfold kFn; rw [decide_eq_false_iff_not]; exact this
theorem aua (h:anE l t):anE (l++m) t:=by unfold anE at *; rw [ab7]; omega
theorem aB8 (h:∀ x∈m,NoL x):anE (l++m) t↔anE l t:=by
 unfold anE
 rw [ab7,apZ (l:=m) fun x hx _ =>?_,Nat.add_zero]
 have:=h x hx
 unfold kKn; rw [decide_eq_false_iff_not]; unfold NoL at this; omega
inductive Ech (l:List Ev) (u:Int):Int→Prop
 | here:Ech l u u
 | next {x v k T:Int}:Ech l u x→ewt l x=some (v,k,some T)→Ech l u v
def Hol (c:Cfg) (l:List Ev):Prop:=(∀ t,TOk c t → -1≤lev l t)∧∀ t u k T y,ewt l t=some (u,k,some T)→Ech l u y→fnE l y∨T≤lev l y
def aCf (l:List Ev) (x:Ev):Prop:=x.kind=11∨x.kind=12→lev l x.task ≠ -1∧lev l x.task<x.level
def ait (c:Cfg) (l:List Ev):Prop:=∀ p x r,l=p++x::r→aCf p x∧Hol c (p++[x])
theorem Ech.congr (h:∀ t,ewt m t=ewt l t) {y:Int} (hc:Ech m u y):Ech l u y:=by
 induction hc with
 | here =>exact .here
 | next _ e ih =>exact .next ih (by rw [← h]; exact e)
theorem Hol.same (h:Hol c l) (hw:∀ x∈m,NoW x) (hl:∀ x∈m,NoL x):Hol c (l++m):=⟨fun t ht =>by rw [ane hl]; exact h.1 t ht,fun t u k T y e c =>by
 rw [aeH hw] at e
 rcases h.2 t u k T y e (c.congr fun t =>aeH hw) with g | g
 ·exact .inl ((asr hw).2 g)
 ·exact .inr (by rw [ane hl]; exact g)⟩
theorem Hol.back (h:Hol c (l++m)) (hw:∀ x∈m,NoW x) (hl:∀ x∈m,NoL x):Hol c l:=⟨fun t ht =>by have:=h.1 t ht; rw [ane hl] at this; exact this,fun t u k T y e c =>by
 rcases h.2 t u k T y (by rw [aeH hw]; exact e) (c.congr fun t =>(aeH hw).symm) with g | g
 ·exact .inl ((asr hw).1 g)
 ·exact .inr (by rw [ane hl] at g; exact g)⟩
theorem aDR:ait c []:=fun p x r h =>by cases p<;>cases h
theorem ayN {l p r:List Ev} {x y:Ev} (h:l++[y]=p++x::r):(r=[]∧p=l∧x=y)∨∃ r',l=p++x::r':=by
 rcases List.eq_nil_or_concat r with k | ⟨r',z,k⟩
 ·subst k
  have:=List.append_inj' h rfl
  exact .inl ⟨rfl,this.1.symm,(List.cons.inj this.2).1.symm⟩
 ·subst k
  rw [List.concat_eq_append,← List.cons_append,← List.append_assoc] at h
  exact .inr ⟨r',(List.append_inj' h rfl).1⟩
theorem ait.one (h:ait c l) (ho:aCf l x) (hh:Hol c (l++[x])):ait c (l++[x]):=fun p y r e =>by
 rcases ayN e with ⟨rfl,rfl,rfl⟩ | ⟨r',e⟩
 ·exact ⟨ho,hh⟩
 ·exact h p y r' e
theorem aIR (h:NoL x):aCf l x:=fun k =>by unfold NoL at h; omega
theorem ait.no:∀ {m l:List Ev},ait c l→Hol c l→(∀ x∈m,NoW x)→(∀ x∈m,NoL x)→ait c (l++m)
 | [],l,h,_,_,_ =>by rw [List.append_nil]; exact h
 | x::m,l,h,hh,hw,hl =>by
  have e:l++x::m=(l++[x])++m:=by rw [List.append_assoc]; rfl
  have h1:∀ y∈[x],NoW y:=fun y hy =>by rw [List.mem_singleton.1 hy]; exact hw x (List.mem_cons_self ..)
  have h2:∀ y∈[x],NoL y:=fun y hy =>by rw [List.mem_singleton.1 hy]; exact hl x (List.mem_cons_self ..)
  have g:=hh.same h1 h2
  rw [e]
  exact ait.no (h.one (aIR (h2 x (List.mem_singleton.2 rfl))) g) g (fun y hy =>hw y (List.mem_cons_of_mem _ hy)) fun y hy =>hl y (List.mem_cons_of_mem _ hy)
theorem ait.mid {a b:List Ev} (h:ait c l) (hh:Hol c l) (ha:∀ x∈a,NoW x∧NoL x) (hb:∀ x∈b,NoW x∧NoL x) (ho:aCf l x) (hh':Hol c (l++(a++x::b))):ait c (l++(a++x::b)):=by
 have e:l++(a++x::b)=((l++a)++[x])++b:=by simp
 rw [e] at hh' ⊢
 have h3:=hh'.back (fun x hx =>(hb x hx).1) (fun x hx =>(hb x hx).2)
 refine ait.no ((h.no hh (fun x hx =>(ha x hx).1) (fun x hx =>(ha x hx).2)).one (fun k =>?_) h3) h3 (fun x hx =>(hb x hx).1) (fun x hx =>(hb x hx).2)
 rw [ane fun x hx =>(ha x hx).2]
 exact ho k
end
end
section
open Go.RowKit
set_option maxHeartbeats 2000000 in
theorem auN (c:Cfg) (l:CfgAt) (w:World) (hc:aml w w.heap.size c l) :
  Calls Tryz.prog 43 #[ap5 c l] w fun e w' =>e=.returned (.int .i64 (adI c))∧Below w.heap.size w w':=by
 have hlen:=hc.1.1
 have hlen2:=hc.2.1
 by_cases hn:aiR c=true
 ·obtain ⟨_,_,h1,h2,_⟩:=ahP hn
  by_cases hp:inB (c.progs.length:Int) 1 32=true
  ·have hpa0:adb c=aa0 c.levels c.progs.length c.progs:=by simp [adb,hp]
   have hfin:adI c=if aa0 c.levels c.progs.length c.progs≠0 then aa0 c.levels c.progs.length c.progs else aeI c:=by simp [adI,hn,hpa0]
   have Hfin:=Lib.hid hfin
   clear hfin hpa0
   unfold ap5
   go_enter Tryz.func43,Tryz.ntmps43
   go_wp2_with fail
   refine (aii c l _).mono ?_; rintro e w1 ⟨rfl,hb1⟩
   obtain ⟨hc1,hf1⟩:=anC hb1
   have hw1:=ahu hb1
   go_wp2_with fail
   refine (agF _ _ _ _).mono ?_; rintro e w2 ⟨rfl,rfl⟩
   go_wp2_with fail
   clear hc1 hf1
   have hb1':Below (w.heap.size+1) (w.alloc (akX c l)) w1:=by simpa using hb1
   clear hb1
   go_loopw [3] (fun i wr =>∃ k:Nat,k≤c.progs.length∧i=.int .i64 k∧aLD c.levels c.progs.length c.progs k∧Below (w.heap.size+1) (w.alloc (akX c l)) wr) (fun i _ =>c.progs.length-(intOf i).toNat)
   case atStart =>exact ⟨0,Nat.zero_le _,rfl,rfl,hb1'⟩
   case round =>
    clear hb1' hw1
    obtain ⟨k,hk,rfl,hi,hb⟩:=hrel
    have hB:w.heap.size<wr.heap.size:=by have:=hb.size; simp at this; omega
    have hbw:Below w.heap.size w wr:=((Below.refl _ _).alloc (Nat.le_refl _) _).trans (hb.mono (by omega))
    obtain ⟨hcs,hfz⟩:=anC hb
    by_cases hlt:k<c.progs.length
    ·obtain ⟨b,o,hpa,hbb,Ai,ci,hcell,hsl⟩:=hc.1.at_ hlt
     have hln:=hsl.len
     obtain ⟨pa,pc,sa,sc⟩:=l
     obtain rfl:pa=some ⟨b,o,none⟩:=hpa
     by_cases hlong:32<c.progs[k].length
     ·have hres:=Lib.hid (ah7 hlt hi hlong)
      go_wp2
      go_ret
      exact ⟨adm (by rw [Hfin.out,hres.out]; simp),hbw⟩
     ·go_wp2
      obtain ⟨wo,rfl⟩:∃ wo:World,wo=wr:=⟨_,rfl⟩
      clear hcs hfz
      go_loopw [4] (fun i ws =>∃ j:Nat,j≤c.progs[k].length∧i=.int .i64 j∧aKw c.levels c.progs.length c.progs[k] j∧Below (w.heap.size+1) (w.alloc (akX c ⟨some ⟨b,o,none⟩,pc,sa,sc⟩)) ws) (fun i _ =>c.progs[k].length-(intOf i).toNat)
      case atStart =>exact ⟨0,Nat.zero_le _,rfl,by simp [aKw],hb⟩
      case round =>
       obtain ⟨j,hj,rfl,hq,hb2⟩:=hrel
       have hB2:w.heap.size<wr.heap.size:=by have:=hb2.size; simp at this; omega
       obtain ⟨hcs,hfz⟩:=anC hb2
       by_cases hjt:j<c.progs[k].length
       ·obtain ⟨b2,o2,hpa2,hbb2,hcc⟩:=hsl.at_ hjt
        obtain rfl:Ai=some ⟨b2,o2,none⟩:=hpa2
        have c0:w.cell? ⟨b2,o2+j*3,none⟩=some (.int .i64 c.progs[k][j].op):=hcc j hjt 0 _ rfl
        have c1:w.cell? ⟨b2,o2+j*3+1,none⟩=some (.int .i64 c.progs[k][j].a):=hcc j hjt 1 _ rfl
        have c2:w.cell? ⟨b2,o2+j*3+2,none⟩=some (.int .i64 c.progs[k][j].b):=hcc j hjt 2 _ rfl
        by_cases hok:ama c.levels c.progs.length c.progs[k][j]=true
        ·have hok2:(!ama c.levels c.progs.length c.progs[k][j])=false:=by simp [hok]
         go_wp2
         clear hcs hfz
         have hcx:=Above.cells (B:=w.heap.size+1) (W:=w.alloc (akX c ⟨some ⟨b,o,none⟩,pc,sa,sc⟩))
         refine aj5 (w.heap.size+1) (w.alloc (akX c ⟨some ⟨b,o,none⟩,pc,sa,sc⟩)) (by kernel_rfl) (by kernel_rfl) hb2 ?_
         repeat (go_big_quiet_step ((go_at_call 74; exact aBV (by simp) (aoS c ⟨some ⟨b,o,none⟩,pc,sa,sc⟩ c.progs[k][j] _ h1 h2 hlen))))
         refine wpQuiet_nil ?_
         intro wq hbq
         have hbq':Below w.heap.size w wq:=((Below.refl _ _).alloc (Nat.le_refl _) _).trans (hbq.mono (by omega))
         clear hcx
         go_wp2
         go_roundw
         case rel =>exact ⟨j+1,by omega,by go_num,anH hjt hq hok,hbq⟩
         case measure =>simp [intOf]; omega
        ·have hok':ama c.levels c.progs.length c.progs[k][j]=false:=by simpa using hok
         clear hok
         have hres:=Lib.hid (aiP hlt hi (by omega) hjt hok')
         go_wp2
         clear hcs hfz
         have hcx:=Above.cells (B:=w.heap.size+1) (W:=w.alloc (akX c ⟨some ⟨b,o,none⟩,pc,sa,sc⟩))
         refine aj5 (w.heap.size+1) (w.alloc (akX c ⟨some ⟨b,o,none⟩,pc,sa,sc⟩)) (by kernel_rfl) (by kernel_rfl) hb2 ?_
         repeat (go_big_quiet_step ((go_at_call 74; exact aBV (by simp) (aoS c ⟨some ⟨b,o,none⟩,pc,sa,sc⟩ c.progs[k][j] _ h1 h2 hlen))))
         refine wpQuiet_nil ?_
         intro wq hbq
         have hbq':Below w.heap.size w wq:=((Below.refl _ _).alloc (Nat.le_refl _) _).trans (hbq.mono (by omega))
         clear hcx
         go_wp2
         go_ret
         exact ⟨adm (by rw [Hfin.out,hres.out]; simp),hbq'⟩
       ·go_wp2
        go_roundw
        case rel =>exact ⟨k+1,by omega,by go_num,ah6 hlt hi (by omega) (by
         have e:j=c.progs[k].length:=by omega
         subst e; exact hq),hb2⟩
        case measure =>simp [intOf]; omega
    ·have hi':aa0 c.levels c.progs.length (c.progs.drop k)=aa0 c.levels c.progs.length c.progs:=hi
     have hpz:aa0 c.levels c.progs.length c.progs=0:=by rw [← hi',List.drop_eq_nil_of_le (by omega)]; rfl
     have Hf2:Hid (adI c=aeI c):=by rw [Hfin.out,hpz]; exact if_neg (by simp)
     clear hi hi' hpz
     by_cases hp:64<c.subs.length
     ·have hfin:aeI c=2:=by simp [aeI,hp]
      have Hf3:=Lib.hid hfin
      clear hfin
      go_wp2
      go_ret
      exact ⟨adm (by rw [Hf2.out,Hf3.out]),hbw⟩
     ·have hfin:aeI c=adl c.levels c.progs.length c.subs:=by simp [aeI,hp]
      have Hf3:=Lib.hid hfin
      clear hfin
      go_wp2
      obtain ⟨wo,rfl⟩:∃ wo:World,wo=wr:=⟨_,rfl⟩
      clear hcs hfz
      go_loopw [5] (fun i wr =>∃ k:Nat,k≤c.subs.length∧i=.int .i64 k∧aLC c.levels c.progs.length c.subs k∧Below (w.heap.size+1) (w.alloc (akX c l)) wr) (fun i _ =>c.subs.length-(intOf i).toNat)
      case atStart =>exact ⟨0,Nat.zero_le _,rfl,rfl,hb⟩
      case round =>
       clear hb hB hbw
       obtain ⟨m,hk,rfl,hi,hb⟩:=hrel
       have hB:w.heap.size<wr.heap.size:=by have:=hb.size; simp at this; omega
       have hbw:Below w.heap.size w wr:=((Below.refl _ _).alloc (Nat.le_refl _) _).trans (hb.mono (by omega))
       obtain ⟨hcs,hfz⟩:=anC hb
       by_cases hlt:m<c.subs.length
       ·obtain ⟨b,o,hpa,hbb,hcc⟩:=hc.2.at_ hlt
        obtain ⟨pa,pc,sa,sc⟩:=l
        obtain rfl:sa=some ⟨b,o,none⟩:=hpa
        have c0:w.cell? ⟨b,o+m*3,none⟩=some (.int .i64 c.subs[m].prog):=hcc m hlt 0 _ rfl
        have c1:w.cell? ⟨b,o+m*3+1,none⟩=some (.int .i64 c.subs[m].level):=hcc m hlt 1 _ rfl
        have c2:w.cell? ⟨b,o+m*3+2,none⟩=some (.int .i64 c.subs[m].deadline):=hcc m hlt 2 _ rfl
        have hse:aoP c.levels c.progs.length c.subs[m]=if !inB c.subs[m].prog 0 (c.progs.length-1) then 3 else if !inB c.subs[m].level 0 (c.levels-1) || !inB c.subs[m].deadline 0 16777215 then 1 else 0:=rfl
        have Hse:=Lib.hid hse
        clear hse
        have bad:=fun e he hne =>Lib.hid (ajJ (e:=e) hlt hi he hne)
        by_cases g1:inB c.subs[m].prog 0 (c.progs.length-1)=true
        ·by_cases g2:inB c.subs[m].level 0 (c.levels-1)=true
         ·by_cases g3:inB c.subs[m].deadline 0 16777215=true
          ·go_wp2_with (first | (go_at_call 73; refine (agF _ _ _ _).mono ?_; rintro e w' ⟨rfl,rfl⟩))
           go_roundw
           case rel =>exact ⟨m+1,by omega,by go_num,aiy hlt hi (by rw [Hse.out]; simp [g1,g2,g3]),hb.alloc (by omega) _⟩
           case measure =>simp [intOf]; omega
          ·go_wp2_with (first | (go_at_call 73; refine (agF _ _ _ _).mono ?_; rintro e w' ⟨rfl,rfl⟩))
           go_ret
           exact ⟨adm (by rw [Hf2.out,Hf3.out,(bad 1 (by rw [Hse.out]; simp [g1,g2,g3]) (by omega)).out]),hbw.alloc (by omega) _⟩
         ·go_wp2_with (first | (go_at_call 73; refine (agF _ _ _ _).mono ?_; rintro e w' ⟨rfl,rfl⟩))
          go_ret
          exact ⟨adm (by rw [Hf2.out,Hf3.out,(bad 1 (by rw [Hse.out]; simp [g1,g2]) (by omega)).out]),hbw.alloc (by omega) _⟩
        ·go_wp2_with (first | (go_at_call 73; refine (agF _ _ _ _).mono ?_; rintro e w' ⟨rfl,rfl⟩))
         go_ret
         exact ⟨adm (by rw [Hf2.out,Hf3.out,(bad 3 (by rw [Hse.out]; simp [g1]) (by omega)).out]),hbw.alloc (by omega) _⟩
       ·go_wp2
        go_ret
        exact ⟨adm (by
         have hi':adl c.levels c.progs.length (c.subs.drop m)=adl c.levels c.progs.length c.subs:=hi
         rw [Hf2.out,Hf3.out,← hi',List.drop_eq_nil_of_le (by omega)]; rfl),hbw⟩
  ·have hfin:adI c=2:=by simp [adI,hn,adb,hp]
   have Hfin:=Lib.hid hfin
   clear hfin
   unfold ap5
   go_enter Tryz.func43,Tryz.ntmps43
   go_wp2_with fail
   refine (aii c l _).mono ?_; rintro e w1 ⟨rfl,hb1⟩
   obtain ⟨hc1,hf1⟩:=anC hb1
   have hw1:=ahu hb1
   go_wp2_with fail
   refine (agF _ _ _ _).mono ?_; rintro e w2 ⟨rfl,rfl⟩
   go_wp2_with fail
   go_ret
   exact ⟨adm Hfin.out.symm,hw1⟩
 ·have hfin:adI c=1:=by simp [adI,hn]
  have Hfin:=Lib.hid hfin
  clear hfin
  unfold ap5
  go_enter Tryz.func43,Tryz.ntmps43
  go_wp2_with fail
  refine (aii c l _).mono ?_; rintro e w1 ⟨rfl,hb1⟩
  have hw1:=ahu hb1
  go_wp2_with fail
  go_ret
  exact ⟨adm Hfin.out.symm,hw1⟩
end
section
open Go Go.RowKit
variable [Tb]
def amP (c:Cfg):Option ((Int×Unit)×Unit):=some ((adI c,()),())
noncomputable abbrev an0:Con SR1:=⟨43,[.val 13],[.sh sI_],fun x =>amP x.1⟩
theorem aqH:CO Tryz.prog an0:=aBI (by kernel_rfl) auN
end
end Go.Proofs.YteapeojalliebaaGreat
