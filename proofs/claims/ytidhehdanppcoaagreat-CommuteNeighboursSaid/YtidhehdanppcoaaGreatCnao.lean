/- Who has a task,and what its cells say: what holds between steps,and how a step keeps it. No program occurs here. What a step leaves of the tasks' states: the machines that change none. Who has a task,in the program's memory: single changes of the cells,the records and the events. Who has a task,in the program's memory: what each line that touches a task does. Who has a task: Run,a worker,the client. Who has a task: what holds of an engine between its entries. Who has a task. -/
import Derived.Test.YtidhehdanppcoaaGreatCnan
set_option linter.all false
namespace Go.Proofs.YtidhehdanppcoaaGreat
section
inductive Ts where
 | fresh | alloc (m:Nat) | acc (m:Nat) | ready | run (m:Nat) | bm (m:Nat) | wait (u:Int) | fin (m:Nat) | fg (m:Nat) | done
inductive Ph where
 | n | p (id:Int) | q (id:Int) | j (t u:Int) | b (t u:Int) | r (t:Int) | f (t:Int) | g (t:Int) | h (t x:Int)
def upd {α:Type} (f:Int→α) (a:Int) (v:α) (x:Int):α:=if x=a then v else f x
def afJ {α:Type} (f:Nat→α) (a:Nat) (v:α) (x:Nat):α:=if x=a then v else f x
theorem abz {α:Type} {f:Int→α} {a:Int} {v:α}:upd f a v a=v:=if_pos rfl
theorem abo {α:Type} {f:Int→α} {a x:Int} {v:α} (h:x≠a):upd f a v x=f x:=if_neg h
theorem abL {α:Type} {f:Nat→α} {a:Nat} {v:α}:afJ f a v a=v:=if_pos rfl
theorem acO {α:Type} {f:Nat→α} {a x:Nat} {v:α} (h:x≠a):afJ f a v x=f x:=if_neg h
def Ts.mine:Ts→Option Nat
 | .alloc m =>some m
 | .acc m =>some m
 | .run m =>some m
 | .bm m =>some m
 | .fin m =>some m
 | .fg m =>some m
 | _ =>none
def Ts.over:Ts→Prop
 | .fg _ =>True
 | .done =>True
 | _ =>False
structure Ab where
 T:Int
 N:Int
 S:Int→Int
 J:Int→Int
 wa:Int→Int
 st:Int→Bool
 kn:Int→Nat
 sn:Int→Nat
 fn:Int→Nat
 ts:Int→Ts
 hd:Nat→List Int
 ph:Nat→Ph
def Ab.ok (a:Ab) (t:Int):Prop:=0≤t∧t<a.T
def aK3 (s:Ts) (S wa J:Int) (st:Bool) (kn fn:Nat):Prop:=match s with
 | .fresh =>S=0∧st=false∧kn=0∧fn=0
 | .alloc _ =>S=0∧st=false∧kn=0∧fn=0
 | .acc _ =>S=0∧st=false∧kn=1∧fn=0
 | .ready =>S=1∧kn=1∧fn=0
 | .run _ =>S=2∧st=true∧kn=1∧fn=0
 | .bm _ =>S=3∧st=true∧kn=1∧fn=0
 | .wait u =>S=3∧st=true∧kn=1∧fn=0∧wa=u
 | .fin _ =>S=4∧st=true∧kn=1∧fn=0
 | .fg _ =>S=4∧st=true∧kn=1∧fn=1∧J≠0
 | .done =>S=4∧st=true∧kn=1∧fn=1∧J≠0
def Cl (N t:Int) (s:Ts) (S wa J:Int) (st:Bool) (kn sn fn:Nat):Prop :=
 (sn=if st=true then 1 else 0)∧(s=.fresh↔N≤t)∧aK3 s S wa J st kn fn
def Ab.phOk (a:Ab) (m:Nat) (hd:List Int):Ph→Prop
 | .n =>True
 | .p i =>a.ok i∧a.ts i=.alloc m
 | .q i =>a.ok i∧a.ts i=.acc m
 | .j t u =>t∈hd∧a.wa t=u
 | .b t u =>a.ok t∧a.ts t=.bm m∧a.wa t=u
 | .r t =>a.ok t∧a.ts t=.bm m
 | .f t =>a.ok t∧a.ts t=.fin m
 | .g t =>a.ok t∧a.ts t=.fg m∧∀ w,a.ok w→a.J t=w+1→a.ts w=.wait t
 | .h t x =>a.ok t∧a.ts t=.fg m∧a.ok x∧a.ts x=.wait t
structure LA (a:Ab):Prop where
 n0:0≤a.N
 no:∀ t,¬ a.ok t→a.kn t=0∧a.sn t=0∧a.fn t=0
 cl:∀ t,a.ok t→Cl a.N t (a.ts t) (a.S t) (a.wa t) (a.J t) (a.st t) (a.kn t) (a.sn t) (a.fn t)
 hd:∀ m t,t∈a.hd m→a.ok t∧a.ts t=.run m
 nd:∀ m,(a.hd m).Nodup
 ph:∀ m,a.phOk m (a.hd m) (a.ph m)
 j1:∀ u w,a.ok u→a.ok w→¬ (a.ts u).over→a.J u=w+1→a.ts w=.wait u
 jb:∀ u,a.ok u→a.J u≤4294967296
 c4:∀ m t,a.ok t→a.ts t=.fin m→a.ph m=.f t
theorem LA.put {a:Ab} (h:LA a) {m:Nat} {t:Int} (ht:a.ok t) {s:Ts} {S wa:Int} {st:Bool} {kn sn fn:Nat} {l:List Int} {p:Ph}
  (own:∀ m',(a.ts t).mine=some m'→m'=m) (hw:∀ u,a.ts t=.wait u→a.ok u∧a.ts u=.fg m)
  (ho:(a.ts t).over→s.over) (hc:Cl a.N t s S wa (a.J t) st kn sn fn)
  (hl:∀ x∈l,(x=t∧s=.run m)∨(x≠t∧x∈a.hd m)) (hn:l.Nodup)
  (h4:∀ m',s=.fin m'→m'=m∧p=.f t) (h5:∀ x,x≠t→a.ph m≠.f x)
  (hp:Ab.phOk { a with S:=upd a.S t S,wa:=upd a.wa t wa,st:=upd a.st t st,kn:=upd a.kn t kn,sn:=upd a.sn t sn,fn:=upd a.fn t fn,ts:=upd a.ts t s } m l p) :
  LA { a with S:=upd a.S t S,wa:=upd a.wa t wa,st:=upd a.st t st,kn:=upd a.kn t kn,sn:=upd a.sn t sn,fn:=upd a.fn t fn,ts:=upd a.ts t s,hd:=afJ a.hd m l,ph:=afJ a.ph m p } where
 n0:=h.n0
 no x hx:=by
  have hx':x≠t:=fun k =>hx (by rw [k]; exact ht)
  have:=h.no x hx
  simp only [abo hx']
  exact this
 cl x hx:=by
  by_cases hxt:x=t
  ·subst hxt; simp only [abz]; exact hc
  ·simp only [abo hxt]; exact h.cl x hx
 hd i x hx:=by
  by_cases hi:i=m
  ·subst hi
   simp only [abL] at hx
   rcases hl x hx with ⟨k,k2⟩ | ⟨k,k2⟩
   ·subst k; exact ⟨ht,by simp only [abz]; exact k2⟩
   ·have:=h.hd i x k2
    exact ⟨this.1,by simp only [abo k]; exact this.2⟩
  ·simp only [acO hi] at hx
   have:=h.hd i x hx
   have hxt:x≠t:=fun k =>by
    rw [k] at this
    exact hi (own i (by rw [this.2]; rfl))
   exact ⟨this.1,by simp only [abo hxt]; exact this.2⟩
 nd i:=by
  by_cases hi:i=m
  ·subst hi; simp only [abL]; exact hn
  ·simp only [acO hi]; exact h.nd i
 ph i:=by
  by_cases hi:i=m
  ·subst hi; simp only [abL]; revert hp; cases p<;>exact id
  ·simp only [acO hi]
   have hv:=h.ph i
   have key:∀ {x s},a.ts x=s→s.mine=some i→x≠t:=fun e1 e2 k =>hi (own i (by rw [← k,e1]; exact e2))
   have key2:∀ {x u},a.ts x=.wait u→a.ts u=.fg i→x≠t:=fun e1 e2 k =>hi (by
    have:=(hw _ (k▸e1)).2
    rw [e2] at this
    exact Ts.fg.inj this)
   cases hq:a.ph i with
   | n =>trivial
   | p x =>rw [hq] at hv; exact ⟨hv.1,by simp only [abo (key hv.2 rfl)]; exact hv.2⟩
   | q x =>rw [hq] at hv; exact ⟨hv.1,by simp only [abo (key hv.2 rfl)]; exact hv.2⟩
   | j x u =>rw [hq] at hv; exact ⟨hv.1,by simp only [abo (key (h.hd i x hv.1).2 rfl)]; exact hv.2⟩
   | b x u =>rw [hq] at hv; exact ⟨hv.1,by simp only [abo (key hv.2.1 rfl)]; exact hv.2.1,by simp only [abo (key hv.2.1 rfl)]; exact hv.2.2⟩
   | r x =>rw [hq] at hv; exact ⟨hv.1,by simp only [abo (key hv.2 rfl)]; exact hv.2⟩
   | f x =>rw [hq] at hv; exact ⟨hv.1,by simp only [abo (key hv.2 rfl)]; exact hv.2⟩
   | g x =>rw [hq] at hv; exact ⟨hv.1,by simp only [abo (key hv.2.1 rfl)]; exact hv.2.1,fun w hw1 hj =>by
     have:=hv.2.2 w hw1 hj
     simp only [abo (key2 this hv.2.1)]; exact this⟩
   | h x w =>rw [hq] at hv; exact ⟨hv.1,by simp only [abo (key hv.2.1 rfl)]; exact hv.2.1,hv.2.2.1,by simp only [abo (key2 hv.2.2.2 hv.2.1)]; exact hv.2.2.2⟩
 j1 u w hu hw1 ho1 hj:=by
  have ho2:¬ (a.ts u).over:=fun k =>by
   by_cases hut:u=t
   ·subst hut; simp only [abz] at ho1; exact ho1 (ho k)
   ·simp only [abo hut] at ho1; exact ho1 k
  have:=h.j1 u w hu hw1 ho2 hj
  have hwt:w≠t:=fun k =>by
   subst k
   have:=(hw u this).2
   rw [this] at ho2
   exact ho2 trivial
  simp only [abo hwt]; exact this
 jb:=h.jb
 c4 i x hx hf:=by
  by_cases hxt:x=t
  ·subst hxt
   simp only [abz] at hf
   obtain ⟨k1,k2⟩:=h4 i hf
   subst k1; simp only [abL]; exact k2
  ·simp only [abo hxt] at hf
   have:=h.c4 i x hx hf
   have hi:i≠m:=fun k =>h5 x hxt (k▸this)
   simp only [acO hi]; exact this
theorem LA.step {a:Ab} (h:LA a) {m:Nat} {l:List Int} {p:Ph} (hl:∀ x∈l,x∈a.hd m) (hn:l.Nodup) (hf:∀ x,a.ph m=.f x→p=.f x) (hp:a.phOk m l p) :
  LA { a with hd:=afJ a.hd m l,ph:=afJ a.ph m p } where
 n0:=h.n0
 no:=h.no
 cl:=h.cl
 hd i x hx:=by
  by_cases hi:i=m
  ·subst hi; simp only [abL] at hx; exact h.hd i x (hl x hx)
  ·simp only [acO hi] at hx; exact h.hd i x hx
 nd i:=by
  by_cases hi:i=m
  ·subst hi; simp only [abL]; exact hn
  ·simp only [acO hi]; exact h.nd i
 ph i:=by
  by_cases hi:i=m
  ·subst hi; simp only [abL]; revert hp; cases p<;>exact id
  ·simp only [acO hi]
   have hv:=h.ph i
   revert hv
   cases a.ph i<;>exact id
 j1:=h.j1
 jb:=h.jb
 c4 i x hx hq:=by
  have:=h.c4 i x hx hq
  by_cases hi:i=m
  ·subst hi; simp only [abL]; exact hf x this
  ·simp only [acO hi]; exact this
theorem LA.setJ {a:Ab} (h:LA a) {u v:Int} (h0:v≠0) (hb:v≤4294967296) (hv:∀ w,a.ok w→v=w+1→a.ts w=.wait u):LA { a with J:=upd a.J u v } where
 n0:=h.n0
 no:=h.no
 cl x hx:=by
  obtain ⟨c1,c2,c3⟩:=h.cl x hx
  refine ⟨c1,c2,?_⟩
  by_cases hxu:x=u
  ·subst hxu
   simp only [abz]
   revert c3
   cases a.ts x<;>first | exact id | exact fun k =>⟨k.1,k.2.1,k.2.2.1,k.2.2.2.1,h0⟩
  ·simp only [abo hxu]; exact c3
 hd:=h.hd
 nd:=h.nd
 ph i:=by
  have hq:=h.ph i
  revert hq
  cases a.ph i<;>first | exact id | skip
  case g x =>
   refine fun hq =>⟨hq.1,hq.2.1,fun w hw hj =>?_⟩
   by_cases hxu:x=u
   ·subst hxu; simp only [abz] at hj; exact hv w hw hj
   ·simp only [abo hxu] at hj; exact hq.2.2 w hw hj
 j1 x w hx hw ho hj:=by
  by_cases hxu:x=u
  ·subst hxu; simp only [abz] at hj; exact hv w hw hj
  ·simp only [abo hxu] at hj; exact h.j1 x w hx hw ho hj
 jb x hx:=by
  by_cases hxu:x=u
  ·subst hxu; simp only [abz]; exact hb
  ·simp only [abo hxu]; exact h.jb x hx
 c4:=h.c4
theorem LA.next {a:Ab} (h:LA a) {n:Int} (hn:a.N≤n) (ht:a.T≤a.N):LA { a with N:=n } where
 n0:=by have:=h.n0; show 0≤n; omega
 no:=h.no
 cl x hx:=by
  obtain ⟨c1,c2,c3⟩:=h.cl x hx
  have hx2:x<a.T:=hx.2
  exact ⟨c1,⟨fun k =>by have:=c2.1 k; omega,fun k =>by have k:n≤x:=k; omega⟩,c3⟩
 hd:=h.hd
 nd:=h.nd
 ph i:=by
  have hq:=h.ph i
  revert hq
  cases a.ph i<;>exact id
 j1:=h.j1
 jb:=h.jb
 c4:=h.c4
theorem LA.alloc {a:Ab} (h:LA a) {m:Nat} (ht:a.N<a.T) {l:List Int} (hl:∀ x∈l,x∈a.hd m) (hn:l.Nodup) (hp:a.ph m=.n) :
  LA { a with N:=a.N+1,st:=upd a.st a.N false,wa:=upd a.wa a.N (-1),ts:=upd a.ts a.N (.alloc m),hd:=afJ a.hd m l,ph:=afJ a.ph m (.p a.N) }:=by
 have hok:a.ok a.N:=⟨h.n0,ht⟩
 have hN:=h.cl _ hok
 have hfr:a.ts a.N=.fresh:=hN.2.1.2 (Int.le_refl _)
 have hne:∀ {x s},a.ts x=s→s≠.fresh→x≠a.N:=fun e1 e2 k =>e2 (by rw [← e1,k,hfr])
 rw [hfr] at hN
 obtain ⟨n1,n2,n3⟩:=hN
 refine ⟨by show 0≤a.N+1; have:=h.n0; omega,h.no,fun x hx =>?_,fun i x hx =>?_,fun i =>?_,fun i =>?_,fun u w hu hw ho hj =>?_,h.jb,fun i x hx hf =>?_⟩
 ·by_cases hxN:x=a.N
  ·subst hxN
   simp only [abz]
   refine ⟨by rw [n1,n3.2.1],⟨fun k =>(by cases k),fun k =>(by have k:a.N+1≤a.N:=k; omega)⟩,n3.1,rfl,n3.2.2.1,n3.2.2.2⟩
  ·simp only [abo hxN]
   obtain ⟨c1,c2,c3⟩:=h.cl x hx
   exact ⟨c1,⟨fun k =>by have:=c2.1 k; omega,fun k =>c2.2 (by omega)⟩,c3⟩
 ·have key:x∈a.hd i:=by
   by_cases hi:i=m
   ·subst hi; simp only [abL] at hx; exact hl x hx
   ·simp only [acO hi] at hx; exact hx
  have:=h.hd i x key
  exact ⟨this.1,by simp only [abo (hne this.2 (by intro k; cases k))]; exact this.2⟩
 ·by_cases hi:i=m
  ·subst hi; simp only [abL]; exact hn
  ·simp only [acO hi]; exact h.nd i
 ·by_cases hi:i=m
  ·subst hi; simp only [abL]; exact ⟨hok,by simp only [abz]⟩
  ·simp only [acO hi]
   have hv:=h.ph i
   cases hq:a.ph i with
   | n =>trivial
   | p x =>rw [hq] at hv; exact ⟨hv.1,by simp only [abo (hne hv.2 (by intro k; cases k))]; exact hv.2⟩
   | q x =>rw [hq] at hv; exact ⟨hv.1,by simp only [abo (hne hv.2 (by intro k; cases k))]; exact hv.2⟩
   | j x u =>rw [hq] at hv; exact ⟨hv.1,by simp only [abo (hne (h.hd i x hv.1).2 (by intro k; cases k))]; exact hv.2⟩
   | b x u =>rw [hq] at hv; exact ⟨hv.1,by simp only [abo (hne hv.2.1 (by intro k; cases k))]; exact hv.2.1,by simp only [abo (hne hv.2.1 (by intro k; cases k))]; exact hv.2.2⟩
   | r x =>rw [hq] at hv; exact ⟨hv.1,by simp only [abo (hne hv.2 (by intro k; cases k))]; exact hv.2⟩
   | f x =>rw [hq] at hv; exact ⟨hv.1,by simp only [abo (hne hv.2 (by intro k; cases k))]; exact hv.2⟩
   | g x =>rw [hq] at hv; exact ⟨hv.1,by simp only [abo (hne hv.2.1 (by intro k; cases k))]; exact hv.2.1,fun w hw1 hj =>by
     have:=hv.2.2 w hw1 hj
     simp only [abo (hne this (by intro k; cases k))]; exact this⟩
   | h x w =>rw [hq] at hv; exact ⟨hv.1,by simp only [abo (hne hv.2.1 (by intro k; cases k))]; exact hv.2.1,hv.2.2.1,by simp only [abo (hne hv.2.2.2 (by intro k; cases k))]; exact hv.2.2.2⟩
 ·have ho2:¬ (a.ts u).over:=fun k =>by
   by_cases hut:u=a.N
   ·rw [hut,hfr] at k; exact k
   ·simp only [abo hut] at ho; exact ho k
  have:=h.j1 u w hu hw ho2 hj
  simp only [abo (hne this (by intro k; cases k))]; exact this
 ·have hxN:x≠a.N:=fun k =>by
   rw [k] at hf; simp only [abz] at hf; cases hf
  simp only [abo hxN] at hf
  have:=h.c4 i x hx hf
  have hi:i≠m:=fun k =>by rw [k,hp] at this; cases this
  simp only [acO hi]; exact this
theorem aKg {T:Int} {wa:Int→Int} {st:Int→Bool} (hs:∀ t,0≤t→t<T→st t=false):LA ⟨T,0,fun _ =>0,fun _ =>0,wa,st,fun _ =>0,fun _ =>0,fun _ =>0,fun _ =>.fresh,fun _ =>[],fun _ =>.n⟩ where
 n0:=Int.le_refl 0
 no _ _:=⟨rfl,rfl,rfl⟩
 cl t ht:=by
  have h:st t=false:=hs t ht.1 ht.2
  exact ⟨by simp only [h]; rfl,⟨fun _ =>ht.1,fun _ =>rfl⟩,rfl,h,rfl,rfl⟩
 hd _ _ h:=by cases h
 nd _:=.nil
 ph _:=trivial
 j1 u w hu hw _ hj:=by have:=hw.1; have hj:0=w+1:=hj; omega
 jb _ _:=by show (0:Int)≤_; omega
 c4 _ _ _ h:=by cases h
end
section
open Go Go.RowKit
set_option maxRecDepth 100000
variable [Tb]
abbrev Stt (c:Cfg) (e:EnvP) (t:Int):Int:=e.gt (aaP (aau c) t)
abbrev Jo (c:Cfg) (e:EnvP) (t:Int):Int:=e.gt (ac4 (aau c) t)
abbrev Wt (c:Cfg) (e:EnvP) (t:Int):Int:=e.gt (aeS (aau c) t)
structure Qs (c:Cfg) (e e':EnvP):Prop where
 st:∀ t,Stt c e' t=Stt c e t
 jo:∀ t,Jo c e' t=Jo c e t
 wa:∀ t,Wt c e' t=Wt c e t
 nx:e'.gt 0=e.gt 0
 rc:e'.recs=e.recs
 ev:∃ l,e'.evs=e.evs++l∧∀ x∈l,11≤x.kind
def N7 (c:Cfg) (a:Int):Prop:=ckC c a≠0∧ckC c a≠7
section
variable {c:Cfg} {e e':EnvP} {a v k o w x:Int}
theorem axQ (h:DecOk c) {t f:Int} (hf:0≤f∧f<5) (hf1:f≠1) (h0:0≤adx (aau c) t f):ckC c (adx (aau c) t f)=7:=by
 have e1:=atZ h (t:=t) hf
 have e2:=aeq h (t:=t) hf
 by_cases ht:0≤t∧t<c.tasks
 ·rw [e1,if_pos ht,if_neg hf1]
 ·rw [e2,if_neg ht] at h0; omega
theorem aKy (h:DecOk c) {t u f g:Int} (hf:0≤f∧f<5) (hg:0≤g∧g<5) (hne:f≠g) (h0:0≤adx (aau c) t f):adx (aau c) t f≠adx (aau c) u g:=by
 have e1:=aeq h (t:=t) hf
 have e2:=aeq h (t:=u) hg
 intro k
 by_cases ht:0≤t∧t<c.tasks
 ·rw [if_pos ht] at e1
  by_cases hu:0≤u∧u<c.tasks
  ·rw [if_pos hu] at e2; omega
  ·rw [if_neg hu] at e2; omega
 ·rw [e1,if_neg ht] at h0; omega
theorem aI3 (h:DecOk c) {t u f:Int} (hf:0≤f∧f<5) (ht:TOk c t) (k:adx (aau c) u f=adx (aau c) t f):u=t:=by
 have e1:=aeq h (t:=t) hf
 have e2:=aeq h (t:=u) hf
 have e3:=ah5 h
 have h4:=h.h
 have ht:0≤t∧t<c.tasks:=ht
 rw [if_pos ht] at e1
 by_cases hu:0≤u∧u<c.tasks
 ·rw [if_pos hu] at e2; omega
 ·rw [if_neg hu] at e2; omega
theorem aHZ (h:DecOk c) (ha:N7 c a) {t f:Int} (hf:0≤f∧f<5) (hf1:f≠1):(e.pt k a v).gt (adx (aau c) t f)=e.gt (adx (aau c) t f):=by
 rw [aix,if_neg]
 intro h'
 have:=axQ h (t:=t) hf hf1 (by omega)
 rw [h'.1] at this
 exact ha.2 this
theorem ann (h:DecOk c) {t u f g:Int} (hf:0≤f∧f<5) (hg:0≤g∧g<5) (hne:f≠g):(e.pt k (adx (aau c) u g) v).gt (adx (aau c) t f)=e.gt (adx (aau c) t f):=by
 rw [aix,if_neg]
 intro h'
 exact aKy h hf hg hne (by omega) h'.1
theorem avD (h:DecOk c) {u g:Int} (hg:0≤g∧g<5) (hg1:g≠1):(e.pt k (adx (aau c) u g) v).gt 0=e.gt 0:=by
 rw [aix,if_neg]
 intro h'
 have:=axQ h (t:=u) hg hg1 (by omega)
 rw [← h'.1,afY] at this
 omega
theorem Qs.refl:Qs c e e:=⟨fun _ =>rfl,fun _ =>rfl,fun _ =>rfl,rfl,rfl,[],by simp,fun x hx =>by cases hx⟩
theorem Qs.lk:Qs c e (e.lk a):=⟨fun _ =>aw8,fun _ =>aw8,fun _ =>aw8,aw8,rfl,[],by show e.evs=_; simp,fun x hx =>by cases hx⟩
theorem Qs.wr (h:DecOk c) (ha:N7 c a):Qs c e (e.pt k a v) :=
 ⟨fun t =>aHZ h ha (f:=0) (by omega) (by omega),fun t =>aHZ h ha (f:=2) (by omega) (by omega),fun t =>aHZ h ha (f:=3) (by omega) (by omega),by
  rw [aix,if_neg]
  intro h'
  have:=ha.1
  rw [← h'.1,afY] at this
  exact this rfl,rfl,[],by show e.evs=_; simp,fun x hx =>by cases hx⟩
theorem Qs.since (h:DecOk c) {t:Int}:Qs c e (e.pt k (amz (aau c) t) v) :=
 ⟨fun t =>ann h (f:=0) (by omega) (by omega) (by omega),fun t =>ann h (f:=2) (by omega) (by omega) (by omega),fun t =>ann h (f:=3) (by omega) (by omega) (by omega),avD h (by omega) (by omega),rfl,[],by show e.evs=_; simp,fun x hx =>by cases hx⟩
theorem Qs.cas (h:DecOk c) (ha:N7 c a):Qs c e (e.cas a o v):=Qs.wr h ha
theorem Qs.em {t l:Int} (h:Qs c e e') (hk:11≤k):Qs c e (e'.em k w t o l):=by
 obtain ⟨m,hm,hp⟩:=h.ev
 refine ⟨h.st,h.jo,h.wa,h.nx,h.rc,m++[⟨k,w,t,o,l⟩],by show e'.evs++[_]=_; rw [hm,List.append_assoc],fun x hx =>?_⟩
 rcases List.mem_append.1 hx with hx | hx
 ·exact hp x hx
 ·rw [List.mem_singleton.1 hx]; exact hk
theorem aFO (h:DecOk c) (w v:Int):N7 c (aav (aau c) w v).top:=by
 have h3:=h.q
 unfold N7
 rcases ahM h w v with e | ⟨k,h1,h2,e⟩<;>rw [e]
 ·rw [ag3]; omega
 ·have:=avN h ⟨h1,h2⟩ (j:=0) (by omega)
  rw [Int.add_zero,if_pos (by omega)] at this
  show ckC c ((aau c).queues+k*(2+c.deque))≠0∧ckC c ((aau c).queues+k*(2+c.deque))≠7
  omega
theorem am3 (h:DecOk c) (w v:Int):N7 c (aav (aau c) w v).bottom:=by
 have h3:=h.q
 unfold N7
 rcases ahM h w v with e | ⟨k,h1,h2,e⟩<;>rw [e]
 ·rw [ag3]; omega
 ·have:=avN h ⟨h1,h2⟩ (j:=1) (by omega)
  rw [if_pos (by omega)] at this
  show ckC c ((aau c).queues+k*(2+c.deque)+1)≠0∧ckC c ((aau c).queues+k*(2+c.deque)+1)≠7
  omega
theorem aHD (h:DecOk c) (w v:Int) {b:Int} (hb:0≤b):N7 c (ah2 (aav (aau c) w v) b):=by
 have:=ap5 h w v hb
 unfold N7; omega
theorem atr (h:DecOk c) {i:Int}:N7 c (afL (aau c) i):=by have:=ap4 h (i:=i); unfold N7; omega
theorem aqT (h:DecOk c) {w:Int}:N7 c (aaI (aau c) w):=by have:=avX h (w:=w); unfold N7; omega
theorem aEr (h:DecOk c) {w:Int}:N7 c (agK (aau c) w):=by have:=azb h (w:=w); unfold N7; omega
theorem alc (h:DecOk c) {t:Int}:N7 c (ab2 (aau c) t):=by have:=agM h (t:=t); unfold N7; omega
theorem aqS (h:DecOk c) {a:Int} (ha:1≤a∧a≤3):N7 c a:=by have:=ay4 h ha; unfold N7; omega
theorem ats (h:MI c e):N7 c (ag6 w e):=by have:=auL (w:=w) h; unfold N7; omega
theorem aHC {j:Int} (h:MI c e):N7 c (alq v j e):=by have:=axK (v:=v) (j:=j) h; unfold N7; omega
theorem aHo (h:MI c e) (s:OPushS) (hs:aoL s):Qs c e (ae3 (aav (aau c) w v) x e s).2:=by
 cases s with
 | l1 =>exact .lk
 | l2 b =>exact .lk
 | l3 b =>exact .wr h.d (aHD h.d _ _ hs)
 | l4 b =>exact .wr h.d (am3 h.d _ _)
theorem aJB (h:MI c e) (s:OPopS):Qs c e (al0 (aav (aau c) w v) e s).2:=by
 cases s with
 | l1 =>exact .lk
 | l2 b =>exact .lk
 | l3 b t =>exact .wr h.d (am3 h.d _ _)
 | l4 b t =>exact .lk
 | l5 b t =>exact .lk
 | l6 b t =>exact .cas h.d (aFO h.d _ _)
 | l7 b t =>exact .wr h.d (am3 h.d _ _)
 | l8 b t =>exact .lk
 | l9 b t =>exact .wr h.d (am3 h.d _ _)
theorem aGy (h:MI c e) (s:StealS):Qs c e (ahE (aav (aau c) w v) e s).2:=by
 cases s with
 | l1 =>exact .lk
 | l2 b =>exact .lk
 | l3 t =>exact .lk
 | l4 t u =>exact .cas h.d (aFO h.d _ _)
theorem aAM {a b:Int} (h:MI c e) (s:ResetS):Qs c e (afw (aaI (aau c) a) b (aav (aau c) w v) e s).2:=by
 cases s with
 | l1 =>exact .wr h.d (aqT h.d)
 | l2 =>exact .lk
 | l3 x =>exact .lk
 | l4 x =>exact .wr h.d (aqT h.d)
theorem aLy {a b:Int} (h:MI c e):Qs c e (aDC (aaI (aau c) a) b e):=.wr h.d (aqT h.d)
theorem avv {o:Int} (h:MI c e):Qs c e (arP o e):=.cas h.d (aqS h.d (by omega))
theorem aBP (h:MI c e):Qs c e (atG e):=.wr h.d (aqS h.d (by omega))
theorem ayI {d t:Int} (h:MI c e) (s:InsertS):Qs c e (acf d t e s).2:=by
 cases s with
 | l1 =>exact .lk
 | l2 n =>exact .wr h.d (aqS h.d (by omega))
 | l3 n i k x =>exact .lk
 | l4 n i k x =>
  unfold acf
  rw [h.l]
  exact .wr h.d (atr h.d)
 | l5 n i k x =>
  unfold acf
  rw [h.l]
  exact .wr h.d (atr h.d)
 | l6 n i k x =>exact .wr h.d (aqS h.d (by omega))
theorem aDN (h:MI c e) (s:RemoveS):Qs c e (acP w e s).2:=by
 cases s with
 | l1 =>exact .lk
 | l2 n =>exact .lk
 | l3 n x =>exact .lk
 | l4 n x y =>exact (Qs.wr h.d (aqS h.d (by omega))).em (by omega)
 | l5 n i d x y z =>exact .lk
 | l6 n i d x y z =>exact .lk
 | l7 n i d x y z =>
  unfold acP
  rw [h.l]
  exact .wr h.d (atr h.d)
 | l8 n i d x y z =>
  unfold acP
  rw [h.l]
  exact .wr h.d (atr h.d)
theorem aGF (h:MI c e) (s:SleepS):Qs c e (adN w e s).2:=by
 cases s with
 | l1 =>exact .lk
 | l2 ep =>exact .wr h.d (ats h)
 | l3 ep =>exact .lk
 | l4 ep v =>
  simp only [adN]
  split
  ·exact .lk
  ·split
   ·exact Qs.lk.em (by omega)
   ·exact .lk
 | l5 ep v s =>
  simp only [adN]
  split
  ·exact Qs.lk.em (by omega)
  ·split
   ·exact Qs.lk.em (by omega)
   ·exact .lk
 | l6 _ _ _ =>exact .wr h.d (ats h)
 | l7 _ _ _ =>exact .wr h.d (ats h)
theorem auB (h:MI c e) (s:WakeS):Qs c e (aez w v e s).2:=by
 cases s with
 | l1 j =>exact .lk
 | l2 j x =>exact .wr h.d (aHC h)
 | l3 j x =>
  show Qs c e ((e.pt 6 (agK e.l x) _).em 18 w 0 x 0)
  rw [h.l]
  exact (Qs.wr h.d (aEr h.d)).em (by omega)
theorem aHd (s:ProbeS):Qs c e (ajR w e s).2:=by
 have g:∀ s i bm,Qs c e (ag8 w e s i bm).2:=fun s i bm =>by
  unfold ag8
  split
  ·exact .refl
  ·simp only
   split
   ·exact .lk
   ·exact .lk
 cases s with
 | new =>exact g _ _ _
 | run s i bm =>exact g _ _ _
theorem aG7 {t:Int} (h:MI c e) (s:RaiseS):Qs c e (aeT w t v e s).2:=by
 unfold aeT
 rw [h.l]
 split
 ·exact .refl
 ·cases s with
  | l1 q =>exact .lk
  | l2 q =>
   simp only
   split
   ·exact (Qs.cas h.d (alc h.d)).em (by omega)
   ·exact .cas h.d (alc h.d)
theorem aqW (h:MI c e) (s:LPushS) (hs:ajO s):Qs c e (abO w v x e s).2:=by
 have g:∀ s,aoL s→Qs c e (match ae3 (aav e.l w v) x e s with
   | (.go s,e') =>(Rs.go (LPushS.push s),e')
   | (.fin c _,e') =>(if c=3 then .fin 3 0 else .go .set,e')).2:=fun s hs =>by
  have:=aHo (w:=w) (v:=v) (x:=x) h s hs
  rw [h.l]
  revert this
  rcases ae3 (aav (aau c) w v) x e s with ⟨r,e'⟩
  intro this
  cases r<;>exact this
 cases s with
 | new =>exact g .l1 trivial
 | push s =>exact g _ hs
 | set =>
  show Qs c e (aDC (aaI e.l w) v e)
  rw [h.l]
  exact aLy h
theorem aKa (h:MI c e) (s:LPopS):Qs c e (agD w e s).2:=by
 cases s with
 | l1 v =>exact .lk
 | l2 v s =>
  have:=aJB (w:=w) (v:=v) h s
  simp only [agD]
  rw [h.l]
  revert this
  rcases al0 (aav (aau c) w v) e s with ⟨r,e'⟩
  intro this
  cases r<;>exact this
 | l3 v s =>
  have:=aAM (w:=w) (v:=v) (a:=w) (b:=v) h s
  simp only [agD]
  rw [h.l]
  revert this
  rcases afw (aaI (aau c) w) v (aav (aau c) w v) e s with ⟨r,e'⟩
  intro this
  cases r<;>exact this
theorem aIX (h:MI c e) (s:WalkS) (hs:arG c v s):Qs c e (aeL w v e s).2:=by
 have g:∀ t s,Qs c e (match aeT w t v e s with
   | (.go s,e') =>(Rs.go (WalkS.raise t s),e')
   | (.fin c _,e') =>(.go (if c=1 then .l2 t else .l4 t),e')).2:=fun t s =>by
  have:=aG7 (w:=w) (v:=v) (t:=t) h s
  revert this
  rcases aeT w t v e s with ⟨r,e'⟩
  intro this
  cases r<;>exact this
 cases s with
 | l1 t =>
  simp only [aeL]
  split
  ·exact .refl
  ·exact g t _
 | raise t s =>exact g t s
 | l2 t =>exact .lk
 | push t s =>
  have:=aqW (w:=w) (v:=v) (x:=t) h s hs.2
  simp only [aeL]
  revert this
  rcases abO w v t e s with ⟨r,e'⟩
  intro this
  cases r with
  | go s =>exact this
  | fin c0 v0 =>
   show Qs c e (if c0=3 then e'.em 19 w t 0 v else e')
   split
   ·exact this.em (by omega)
   ·exact this
 | l4 t =>exact .lk
theorem aGm {t:Int} (h:MI c e) (s:SweepS) (hs:auq c s):Qs c e (abh w t e s).2:=by
 cases s with
 | l1 =>
  simp only [abh]
  split
  ·exact .refl
  ·exact .lk
 | l2 =>exact .lk
 | l3 =>exact .lk
 | l4 q =>
  simp only [abh]
  rw [h.l]
  split
  ·exact (Qs.cas h.d (alc h.d)).em (by omega)
  ·exact .cas h.d (alc h.d)
 | l5 q =>
  simp only [abh]
  rw [h.l]
  exact .since h.d
 | l6 q s =>
  have:=aqW (w:=w) (v:=wi (wi q+1)) (x:=t) h s hs
  simp only [abh]
  revert this
  rcases abO w (wi (wi q+1)) t e s with ⟨r,e'⟩
  intro this
  cases r with
  | go s =>exact this
  | fin c0 v0 =>
   show Qs c e (if c0=3 then e'.em 19 w t 0 _ else e')
   split
   ·exact this.em (by omega)
   ·exact this
theorem aIj (h:MI c e) (d:DrainS) (hd:awa c d):Qs c e (aa8 w e d).2:=by
 obtain ⟨x,dir,p,last,cnt,k⟩:=d
 obtain ⟨h1,h2⟩:=hd
 cases k with
 | l1 =>exact .lk
 | l2 =>exact avv h
 | l3 s =>
  have:=aDN (w:=w) h s
  simp only [aa8]
  revert this
  rcases acP w e s with ⟨r,e'⟩
  intro this
  cases r<;>exact this
 | l4 =>exact .lk
 | l5 s =>
  have:=aqW (w:=w) (v:=p) (x:=x) h s h2.2
  simp only [aa8]
  revert this
  rcases abO w p x e s with ⟨r,e'⟩
  intro this
  cases r<;>exact this
 | l6 =>exact aBP h
 | l7 s =>
  have:=auB (w:=w) (v:=last) h s
  simp only [aa8]
  revert this
  rcases aez w last e s with ⟨r,e'⟩
  intro this
  cases r<;>exact this
end
def adn (p:Int→Bool) (l:List Ev) (t:Int):Nat:=l.countP fun x =>decide (x.task=t) && p x.kind
def kKn (k:Int):Bool:=decide (k=1∨k=3)
def kSn (k:Int):Bool:=decide (k=5)
def kFn (k:Int):Bool:=decide (k=10)
def rcw (e:EnvP) (t:Int):Int:=if 0≤t then (e.rc t).waiting else -1
def rcs (e:EnvP) (t:Int):Bool:=if 0≤t then (e.rc t).started else false
abbrev Vw:=List Int×Ph
def akb (c:Cfg) (e:EnvP) (ts:Int→Ts) (vs:Nat→Vw):Ab :=
 ⟨c.tasks,e.gt 0,Stt c e,Jo c e,rcw e,rcs e,adn kKn e.evs,adn kSn e.evs,adn kFn e.evs,ts,fun m =>(vs m).1,fun m =>(vs m).2⟩
structure LI (c:Cfg) (e:EnvP) (vs:Nat→Vw):Prop where
 rl:(e.recs.length:Int)=c.tasks
 la:∃ ts,LA (akb c e ts vs)
def Lw (c:Cfg) (e e':EnvP) (v v':Vw):Prop:=∀ m vs,vs m=v→LI c e vs→LI c e' (afJ vs m v')
def Mi (x:Ev):Prop:=x.kind≠1∧x.kind≠3∧x.kind≠5∧x.kind≠10
theorem aqg {α:Type} {f:Nat→α} {m:Nat} {v:α} (h:f m=v):afJ f m v=f:=funext fun j =>by
 unfold afJ; split
 ·rename_i k; rw [k,h]
 ·rfl
theorem azn {α:Type} {f:Nat→α} {m:Nat} {v w:α}:afJ (afJ f m v) m w=afJ f m w:=funext fun j =>by
 unfold afJ; split<;>rfl
theorem aeY {p:Int→Bool} {l k:List Ev} {t:Int}:adn p (l++k) t=adn p l t+adn p k t:=List.countP_append
theorem ay3 {p:Int→Bool} {l:List Ev} {t:Int} (h:∀ x∈l,x.task=t→p x.kind=false):adn p l t=0:=by
 unfold adn
 rw [List.countP_eq_zero]
 intro x hx
 by_cases k:x.task=t
 ·rw [h x hx k]; simp
 ·simp [k]
theorem afX {p:Int→Bool} {k w t o v u:Int}:adn p [⟨k,w,t,o,v⟩] u=if t=u∧p k=true then 1 else 0:=by
 unfold adn
 rw [List.countP_cons,List.countP_nil]
 simp
section
variable {c:Cfg} {e e1 e':EnvP} {v v1 v':Vw}
theorem Lw.trans (h1:Lw c e e1 v v1) (h2:Lw c e1 e' v1 v'):Lw c e e' v v':=fun m vs hv h =>by
 have:=h2 m _ abL (h1 m vs hv h)
 rw [azn] at this
 exact this
structure Of1 (c:Cfg) (e e':EnvP) (t:Int):Prop where
 st:∀ x,x≠t→Stt c e' x=Stt c e x
 jo:∀ x,Jo c e' x=Jo c e x
 nx:e'.gt 0=e.gt 0
 rl:e'.recs.length=e.recs.length
 rc:∀ x,x≠t→0≤x→e'.rc x=e.rc x
 ev:∃ l,e'.evs=e.evs++l∧∀ y∈l,y.task=t∨Mi y
theorem aJ7 {x:Ev} (h:Mi x):kKn x.kind=false:=by unfold kKn; rw [decide_eq_false_iff_not]; unfold Mi at h; omega
theorem aJ5 {x:Ev} (h:Mi x):kSn x.kind=false:=by unfold kSn; rw [decide_eq_false_iff_not]; unfold Mi at h; omega
theorem aJ8 {x:Ev} (h:Mi x):kFn x.kind=false:=by unfold kFn; rw [decide_eq_false_iff_not]; unfold Mi at h; omega
theorem aKQ {p:Int→Bool} (hp:∀ x,Mi x→p x.kind=false) {l k:List Ev} (hk:∀ x∈k,Mi x) {t:Int}:adn p (l++k) t=adn p l t:=by
 rw [aeY,ay3 fun x hx _ =>hp x (hk x hx),Nat.add_zero]
theorem aFB {t:Int} {s0 s:Ts} {l:List Int} {p:Ph} (ht:TOk c t) (o:Of1 c e e' t)
  (H:∀ (a:Ab) (m:Nat),LA a→a.T=c.tasks→a.S=Stt c e→a.J=Jo c e→a.wa=rcw e→a.st=rcs e→a.kn=adn kKn e.evs→a.sn=adn kSn e.evs→a.fn=adn kFn e.evs→a.hd m=v.1→a.ph m=v.2 →
   ∃ s:Ts,(∀ m',(a.ts t).mine=some m'→m'=m)∧(∀ u,a.ts t=.wait u→a.ok u∧a.ts u=.fg m)∧((a.ts t).over→s.over) ∧
    Cl a.N t s (Stt c e' t) (rcw e' t) (Jo c e t) (rcs e' t) (adn kKn e'.evs t) (adn kSn e'.evs t) (adn kFn e'.evs t) ∧
    (∀ x∈l,(x=t∧s=.run m)∨(x≠t∧x∈a.hd m))∧l.Nodup∧(∀ m',s=.fin m'→m'=m∧p=.f t)∧(∀ x,x≠t→a.ph m≠.f x) ∧
    Ab.phOk { a with S:=upd a.S t (Stt c e' t),wa:=upd a.wa t (rcw e' t),st:=upd a.st t (rcs e' t),kn:=upd a.kn t (adn kKn e'.evs t),sn:=upd a.sn t (adn kSn e'.evs t),fn:=upd a.fn t (adn kFn e'.evs t),ts:=upd a.ts t s } m l p) :
  Lw c e e' v (l,p):=fun m vs hv h =>by
 obtain ⟨rl,ts,la⟩:=h
 obtain ⟨s,k1,k2,k3,k4,k5,k6,k7,k8,k9⟩:=H _ m la rfl rfl rfl rfl rfl rfl rfl rfl (by show (vs m).1=_; rw [hv]) (by show (vs m).2=_; rw [hv])
 have:=la.put (t:=t) ht k1 k2 k3 k4 k5 k6 k7 k8 k9
 refine ⟨by rw [o.rl]; exact rl,upd ts t s,?_⟩
 obtain ⟨k,hk,hm⟩:=o.ev
 have ec:∀ {q:Int→Bool},(∀ x,Mi x→q x.kind=false)→∀ x,upd (adn q e.evs) t (adn q e'.evs t) x=adn q e'.evs x:=fun {q} hq x =>by
  by_cases hx:x=t
  ·subst hx; exact abz
  ·rw [abo hx,hk,aeY,ay3 (l:=k) fun y hy e1 =>?_,Nat.add_zero]
   rcases hm y hy with e2 | e2
   ·exact absurd (e1.symm.trans e2) hx
   ·exact hq y e2
 have q1:upd (Stt c e) t (Stt c e' t)=Stt c e':=funext fun x =>by
  by_cases hx:x=t
  ·subst hx; exact abz
  ·rw [abo hx,o.st x hx]
 have q2:upd (rcw e) t (rcw e' t)=rcw e':=funext fun x =>by
  by_cases hx:x=t
  ·subst hx; exact abz
  ·rw [abo hx]; unfold rcw; split
   ·rename_i h0; rw [o.rc x hx h0]
   ·rfl
 have q3:upd (rcs e) t (rcs e' t)=rcs e':=funext fun x =>by
  by_cases hx:x=t
  ·subst hx; exact abz
  ·rw [abo hx]; unfold rcs; split
   ·rename_i h0; rw [o.rc x hx h0]
   ·rfl
 have q4:Jo c e'=Jo c e:=funext o.jo
 have e1:akb c e' (upd ts t s) (afJ vs m (l,p))={ akb c e ts vs with S:=upd (Stt c e) t (Stt c e' t),wa:=upd (rcw e) t (rcw e' t),st:=upd (rcs e) t (rcs e' t),kn:=upd (adn kKn e.evs) t (adn kKn e'.evs t),sn:=upd (adn kSn e.evs) t (adn kSn e'.evs t),fn:=upd (adn kFn e.evs) t (adn kFn e'.evs t),ts:=upd ts t s,hd:=afJ (fun m =>(vs m).1) m l,ph:=afJ (fun m =>(vs m).2) m p }:=by
  rw [q1,q2,q3,funext (ec fun x =>aJ7),funext (ec fun x =>aJ5),funext (ec fun x =>aJ8)]
  unfold akb
  rw [q4,o.nx]
  congr 1
  ·funext j; unfold afJ; split<;>rfl
  ·funext j; unfold afJ; split<;>rfl
 rw [e1]
 exact this
theorem aws (h1:∀ t,Stt c e' t=Stt c e t) (h2:∀ t,Jo c e' t=Jo c e t) (h3:e'.gt 0=e.gt 0) (h4:e'.recs=e.recs) (h5:∃ l,e'.evs=e.evs++l∧∀ x∈l,Mi x) (ts:Int→Ts) (vs:Nat→Vw):akb c e' ts vs=akb c e ts vs:=by
 obtain ⟨l,hl,hm⟩:=h5
 have e1:Stt c e'=Stt c e:=funext h1
 have e2:Jo c e'=Jo c e:=funext h2
 have e3:rcw e'=rcw e:=funext fun t =>by unfold rcw EnvP.rc; rw [h4]
 have e4:rcs e'=rcs e:=funext fun t =>by unfold rcs EnvP.rc; rw [h4]
 have e5:∀ {q:Int→Bool},(∀ x,Mi x→q x.kind=false)→adn q e'.evs=adn q e.evs:=fun {q} hq =>funext fun t =>by rw [hl,aKQ hq hm]
 unfold akb
 rw [e1,e2,h3,e3,e4,e5 fun x =>aJ7,e5 fun x =>aJ5,e5 fun x =>aJ8]
theorem Qs.mi (h:Qs c e e'):∃ l,e'.evs=e.evs++l∧∀ x∈l,Mi x:=by
 obtain ⟨l,hl,hm⟩:=h.ev
 exact ⟨l,hl,fun x hx =>by have:=hm x hx; unfold Mi; omega⟩
theorem axD {ts:Int→Ts} {vs:Nat→Vw} {m:Nat} {w:Vw}:akb c e ts (afJ vs m w)={ akb c e ts vs with hd:=afJ (fun m =>(vs m).1) m w.1,ph:=afJ (fun m =>(vs m).2) m w.2 }:=by
 unfold akb
 congr 1
 ·funext j; unfold afJ; split<;>rfl
 ·funext j; unfold afJ; split<;>rfl
theorem awm {l:List Int} {p:Ph} (hl:∀ x∈l,x∈v.1) (hn:v.1.Nodup→l.Nodup) (hf:∀ x,v.2=.f x→p=.f x)
  (H:∀ (a:Ab) (m:Nat),LA a→a.T=c.tasks→a.J=Jo c e→a.wa=rcw e→a.hd m=v.1→a.ph m=v.2→a.phOk m l p):Lw c e e v (l,p):=fun m vs hv h =>by
 obtain ⟨rl,ts,la⟩:=h
 have e1:(akb c e ts vs).hd m=v.1:=by show (vs m).1=_; rw [hv]
 have e2:(akb c e ts vs).ph m=v.2:=by show (vs m).2=_; rw [hv]
 refine ⟨rl,ts,?_⟩
 rw [axD]
 exact la.step (fun x hx =>by rw [e1]; exact hl x hx) (hn (by rw [← e1]; exact la.nd m)) (fun x hx =>hf x (by rw [← e2]; exact hx)) (H _ m la rfl rfl rfl e1 e2)
theorem Lw.env {e0:EnvP} (h:∀ ts vs,akb c e' ts vs=akb c e ts vs) (hr:e'.recs.length=e.recs.length) (hv:Lw c e0 e v v'):Lw c e0 e' v v':=fun m vs hm hl =>by
 obtain ⟨rl,ts,la⟩:=hv m vs hm hl
 exact ⟨by rw [hr]; exact rl,ts,by rw [h]; exact la⟩
theorem Lw.refl:Lw c e e v v:=fun m vs hv h =>by rw [aqg hv]; exact h
theorem Lw.q (h:Qs c e e') (hv:Lw c e e v v'):Lw c e e' v v':=hv.env (aws h.st h.jo h.nx h.rc h.mi) (by rw [h.rc])
theorem Lw.qr {e0:EnvP} (h:Qs c e e') (hv:Lw c e0 e v v'):Lw c e0 e' v v':=hv.env (aws h.st h.jo h.nx h.rc h.mi) (by rw [h.rc])
theorem Lw.em {e0:EnvP} {k w t o x:Int} (hk:k≠1∧k≠3∧k≠5∧k≠10) (hv:Lw c e0 e v v'):Lw c e0 (e.em k w t o x) v v' :=
 Lw.env (e:=e) (e':=e.em k w t o x) (aws (fun _ =>rfl) (fun _ =>rfl) rfl rfl ⟨[⟨k,w,t,o,x⟩],rfl,fun y hy =>by rw [List.mem_singleton.1 hy]; exact hk⟩) rfl hv
theorem Lw.drop {l:List Int} (hl:∀ x∈l,x∈v.1) (hn:v.1.Nodup→l.Nodup) (hf:∀ x,v.2≠.f x):Lw c e e v (l,.n) :=
 awm hl hn (fun x h =>absurd h (hf x)) fun a m la hT hJ hw hh hp =>trivial
end
section
variable {c:Cfg} {e e1 e':EnvP} {v v1 v':Vw} {t u k x:Int}
theorem aGj (h:DecOk c) {f:Int} (hf:0≤f∧f<5) (ht:TOk c t):0≤adx (aau c) t f∧adx (aau c) t f<aaX c:=by
 have e1:=aeq h (t:=t) hf
 have e3:=ah5 h
 have h4:=h.h
 have ht:0≤t∧t<c.tasks:=ht
 rw [e1,if_pos ht]
 unfold aaX
 omega
theorem atM (h:DecOk c) (hl:(e.m.cells.length:Int)=aaX c) {f:Int} (hf:0≤f∧f<5) (ht:TOk c t):(e.pt k (adx (aau c) t f) x).gt (adx (aau c) t f)=x:=by
 have:=aGj h hf ht
 rw [aix,if_pos ⟨rfl,by omega⟩]
theorem axc (h:DecOk c) {f:Int} (hf:0≤f∧f<5) (ht:TOk c t) (hu:u≠t):(e.pt k (adx (aau c) t f) x).gt (adx (aau c) u f)=e.gt (adx (aau c) u f):=by
 rw [aix,if_neg]
 intro h'
 exact hu (aI3 h hf ht h'.1)
theorem aoS (h:DecOk c) (hl:(e.m.cells.length:Int)=aaX c) (ht:TOk c t):Stt c (e.pt k (aaP (aau c) t) x) t=x:=atM h hl (f:=0) (by omega) ht
theorem avn (h:DecOk c) (ht:TOk c t):Of1 c e (e.pt k (aaP (aau c) t) x) t :=
 ⟨fun u hu =>axc h (f:=0) (by omega) ht hu,fun u =>ann h (f:=2) (by omega) (by omega) (by omega),avD h (by omega) (by omega),rfl,fun _ _ _ =>rfl,[],by show e.evs=_; simp,fun y hy =>by cases hy⟩
theorem aqP:Of1 c e e t:=⟨fun _ _ =>rfl,fun _ =>rfl,rfl,rfl,fun _ _ _ =>rfl,[],by simp,fun y hy =>by cases hy⟩
theorem Of1.em {w o y:Int} (h:Of1 c e e' t) (hk:u=t∨(k≠1∧k≠3∧k≠5∧k≠10)):Of1 c e (e'.em k w u o y) t:=by
 obtain ⟨m,hm,hp⟩:=h.ev
 refine ⟨h.st,h.jo,h.nx,h.rl,h.rc,m++[⟨k,w,u,o,y⟩],by show e'.evs++[_]=_; rw [hm,List.append_assoc],fun x hx =>?_⟩
 rcases List.mem_append.1 hx with hx | hx
 ·exact hp x hx
 ·rw [List.mem_singleton.1 hx]; exact hk
theorem aAS {r:RecP} (ht:0≤t) (hx:x≠t) (h0:0≤x):(e.pr t r).rc x=e.rc x:=by
 show atL _ (e.recs.set t.toNat r) x=atL _ e.recs x
 unfold atL
 rw [List.getElem?_set_ne (by omega)]
theorem ar2 {r:RecP} (ht:TOk c t) (hr:(e.recs.length:Int)=c.tasks):(e.pr t r).rc t=r:=by
 have ht:0≤t∧t<c.tasks:=ht
 exact anI (by omega)
theorem Of1.pr {r:RecP} (h:Of1 c e e' t) (ht:TOk c t):Of1 c e (e'.pr t r) t :=
 ⟨h.st,h.jo,h.nx,by show (e'.recs.set _ _).length=_; rw [List.length_set]; exact h.rl,fun x hx h0 =>by rw [aAS ht.1 hx h0]; exact h.rc x hx h0,h.ev⟩
theorem Of1.wt (h:Of1 c e e' t) (hd:DecOk c):Of1 c e (e'.pt k (aeS (aau c) u) x) t :=
  ⟨fun y hy =>by rw [show Stt c (e'.pt k (aeS (aau c) u) x) y=Stt c e' y from ann hd (f:=0) (by omega) (by omega) (by omega)]; exact h.st y hy,
   fun y =>by rw [show Jo c (e'.pt k (aeS (aau c) u) x) y=Jo c e' y from ann hd (f:=2) (by omega) (by omega) (by omega)]; exact h.jo y,
   by rw [show (e'.pt k (aeS (aau c) u) x).gt 0=e'.gt 0 from avD hd (by omega) (by omega)]; exact h.nx,h.rl,h.rc,h.ev⟩
theorem aDR {s0 s:Nat→Ts} {l:List Int} {p:Ph} (ht:TOk c t) (o:Of1 c e e' t)
  (h0:∀ (a:Ab) (m:Nat),LA a→a.T=c.tasks→a.S=Stt c e→a.J=Jo c e→a.wa=rcw e→a.hd m=v.1→a.ph m=v.2→a.ts t=s0 m)
  (m0:∀ m m',(s0 m).mine=some m'→m'=m) (w0:∀ m u,s0 m≠.wait u) (f0:∀ m,s0 m≠.fresh) (f1:∀ m,s m≠.fresh) (ho:∀ m,(s0 m).over→(s m).over)
  (hsn:(adn kSn e.evs t=if rcs e t=true then 1 else 0)→adn kSn e'.evs t=if rcs e' t=true then 1 else 0)
  (hk:∀ m,aK3 (s0 m) (Stt c e t) (rcw e t) (Jo c e t) (rcs e t) (adn kKn e.evs t) (adn kFn e.evs t)→aK3 (s m) (Stt c e' t) (rcw e' t) (Jo c e t) (rcs e' t) (adn kKn e'.evs t) (adn kFn e'.evs t))
  (hl:∀ m,v.1.Nodup→(t∈v.1→s0 m=.run m)→∀ x∈l,(x=t∧s m=.run m)∨(x≠t∧x∈v.1)) (hn:∀ m,v.1.Nodup→(t∈v.1→s0 m=.run m)→l.Nodup)
  (h4:∀ m m',s m=.fin m'→m'=m∧p=.f t) (h5:∀ x,x≠t→v.2≠.f x)
  (hp:∀ (a:Ab) (m:Nat),LA a→a.T=c.tasks→a.J=Jo c e→a.wa=rcw e→a.hd m=v.1→a.ph m=v.2→a.ts t=s0 m →
   Ab.phOk { a with S:=upd a.S t (Stt c e' t),wa:=upd a.wa t (rcw e' t),st:=upd a.st t (rcs e' t),kn:=upd a.kn t (adn kKn e'.evs t),sn:=upd a.sn t (adn kSn e'.evs t),fn:=upd a.fn t (adn kFn e'.evs t),ts:=upd a.ts t (s m) } m l p) :
  Lw c e e' v (l,p):=aFB (s0:=.done) (s:=.done) ht o fun a m la hT hS hJ hw hst hkn hsn' hfn hh hph =>by
 have e0:=h0 a m la hT hS hJ hw hh hph
 have hok:a.ok t:=⟨ht.1,by rw [hT]; exact ht.2⟩
 obtain ⟨c1,c2,c3⟩:=la.cl t hok
 rw [e0,hS,hw,hJ,hst,hkn,hfn] at c3
 rw [hsn',hst] at c1
 rw [e0] at c2
 have q1:v.1.Nodup:=by rw [← hh]; exact la.nd m
 have q2:t∈v.1→s0 m=.run m:=fun k =>by rw [← e0]; rw [← hh] at k; exact (la.hd m t k).2
 refine ⟨s m,fun m' k =>m0 m m' (by rw [← e0]; exact k),fun u k =>absurd (e0.symm.trans k) (w0 m u),fun k =>ho m (by rw [← e0]; exact k),⟨hsn c1,⟨fun k =>absurd k (f1 m),fun k =>absurd (c2.2 k) (f0 m)⟩,hk m c3⟩,fun x hx =>?_,hn m q1 q2,h4 m,fun x hx k =>h5 x hx (hph.symm.trans k),hp a m la hT hJ hw hh hph e0⟩
 rw [hh]; exact hl m q1 q2 x hx
section
variable {l:List Int}
theorem aog (h:(l++[t]).Nodup):l.Nodup∧t ∉ l:=by
 rw [List.nodup_append] at h
 exact ⟨h.1,fun k =>h.2.2 t k t (List.mem_singleton.2 rfl) rfl⟩
theorem aAH {m:Nat} {a:Ab} (la:LA a) (hh:a.hd m=l) (ht:t∈l):a.ts t=.run m:=(la.hd m t (by rw [hh]; exact ht)).2
theorem okA {a:Ab} (hT:a.T=c.tasks) (ht:TOk c t):a.ok t:=⟨ht.1,by rw [hT]; exact ht.2⟩
theorem aBF {x:Int} (hn:(l++[t]).Nodup) (hx:x∈l):x≠t∧x∈l++[t]:=⟨fun k =>(aog hn).2 (k▸hx),List.mem_append_left _ hx⟩
theorem aIl (hd:DecOk c) (hl:(e.m.cells.length:Int)=aaX c) (ht:TOk c t):Lw c e (e.pt k (aaP (aau c) t) 4) (l++[t],.n) (l,.f t):=by
 refine aDR (s0:=fun m =>.run m) (s:=fun m =>.fin m) ht (avn hd ht) (fun a m la hT hS hJ hw hh hp =>aAH la hh (by simp)) (fun m m' k =>(Option.some.inj k).symm) (fun m u k =>by cases k) (fun m k =>by cases k) (fun m k =>by cases k) (fun m k =>k) (fun k =>k)
  (fun m k =>?_) (fun m hn _ x hx =>.inr (aBF hn hx)) (fun m hn _ =>(aog hn).1) (fun m m' k =>⟨(Ts.fin.inj k).symm,rfl⟩) (fun x hx k =>by cases k) fun a m la hT hJ hw hh hp e0 =>⟨okA hT ht,abz⟩
 exact ⟨aoS hd hl ht,k.2⟩
theorem aHJ (hd:DecOk c) (hl:(e.m.cells.length:Int)=aaX c) (ht:TOk c t):Lw c e (e.pt k (aaP (aau c) t) 3) (l++[t],.j t u) (l,.b t u):=by
 refine aDR (s0:=fun m =>.run m) (s:=fun m =>.bm m) ht (avn hd ht) (fun a m la hT hS hJ hw hh hp =>aAH la hh (by simp)) (fun m m' k =>(Option.some.inj k).symm) (fun m u k =>by cases k) (fun m k =>by cases k) (fun m k =>by cases k) (fun m k =>k) (fun k =>k)
  (fun m k =>?_) (fun m hn _ x hx =>.inr (aBF hn hx)) (fun m hn _ =>(aog hn).1) (fun m m' k =>by cases k) (fun x hx k =>by cases k) fun a m la hT hJ hw hh hp e0 =>⟨okA hT ht,abz,?_⟩
 ·exact ⟨aoS hd hl ht,k.2⟩
 ·have:=la.ph m
  rw [hp] at this
  simp only [abz]
  have h2:a.wa t=u:=this.2
  rw [hw] at h2
  exact h2
theorem aHI:Lw c e e (l,.b t u) (l,.r t) :=
 awm (fun x hx =>hx) (fun h =>h) (fun x k =>by cases k) fun a m la hT hJ hw hh hp =>by
  have:=la.ph m
  rw [hp] at this
  exact ⟨this.1,this.2.1⟩
theorem aIy (hd:DecOk c) (hl:(e.m.cells.length:Int)=aaX c) (ht:TOk c t):Lw c e (e.pt k (aaP (aau c) t) 2) (l,.r t) (l++[t],.n):=by
 refine aDR (s0:=fun m =>.bm m) (s:=fun m =>.run m) ht (avn hd ht) (fun a m la hT hS hJ hw hh hp =>?_) (fun m m' k =>(Option.some.inj k).symm) (fun m u k =>by cases k) (fun m k =>by cases k) (fun m k =>by cases k) (fun m k =>k) (fun k =>k)
  (fun m k =>?_) (fun m hn q x hx =>?_) (fun m hn q =>?_) (fun m m' k =>by cases k) (fun x hx k =>by cases k) fun a m la hT hJ hw hh hp e0 =>trivial
 ·have:=la.ph m
  rw [hp] at this
  exact this.2
 ·exact ⟨aoS hd hl ht,k.2⟩
 ·rcases List.mem_append.1 hx with hx | hx
  ·exact .inr ⟨fun k =>(by have:=q (k▸hx); cases this),hx⟩
  ·exact .inl ⟨List.mem_singleton.1 hx,rfl⟩
 ·exact List.nodup_append.2 ⟨hn,by simp,fun a ha b hb k =>by
   rw [List.mem_singleton.1 hb] at k
   have:=q (k▸ha)
   cases this⟩
theorem aGO (hd:DecOk c) (hl:(e.m.cells.length:Int)=aaX c) (hu:TOk c u) (hx:x≠0) (hb:x≤4294967296) (H:∀ (a:Ab) (m:Nat),LA a→a.T=c.tasks→a.wa=rcw e→a.hd m=v.1→a.ph m=v.2→∀ w,TOk c w→x=w+1→a.ts w=.wait u) :
  Lw c e (e.pt k (ac4 (aau c) u) x) v v:=fun m vs hv h =>by
 obtain ⟨rl,ts,la⟩:=h
 have:=la.setJ (u:=u) (v:=x) hx hb fun w hw =>H _ m la rfl rfl (by show (vs m).1=_; rw [hv]) (by show (vs m).2=_; rw [hv]) w hw
 rw [aqg hv]
 refine ⟨rl,ts,?_⟩
 have e1:Stt c (e.pt k (ac4 (aau c) u) x)=Stt c e:=funext fun t =>ann hd (f:=0) (by omega) (by omega) (by omega)
 have e2:Jo c (e.pt k (ac4 (aau c) u) x)=upd (Jo c e) u x:=funext fun t =>by
  by_cases ht:t=u
  ·subst ht; rw [abz]; exact atM hd hl (f:=2) (by omega) hu
  ·rw [abo ht]; exact axc hd (f:=2) (by omega) hu ht
 have e3:(e.pt k (ac4 (aau c) u) x).gt 0=e.gt 0:=avD hd (by omega) (by omega)
 have e4:akb c (e.pt k (ac4 (aau c) u) x) ts vs={ akb c e ts vs with J:=upd (Jo c e) u x }:=by
  unfold akb; rw [e1,e2,e3]; rfl
 rw [e4]; exact this
theorem aKk (hd:DecOk c) (hl:(e.m.cells.length:Int)=aaX c) (hu:TOk c u):Lw c e (e.pt k (ac4 (aau c) u) (t+1)) (l,.b t u) (l,.n):=fun m vs hv hh =>by
 obtain ⟨rl,ts,la⟩:=hh
 have hph:=la.ph m
 have e2:(akb c e ts vs).ph m=.b t u:=by show (vs m).2=_; rw [hv]
 have e1:(akb c e ts vs).hd m=l:=by show (vs m).1=_; rw [hv]
 rw [e2] at hph
 obtain ⟨k1,k2,k3⟩:=hph
 obtain ⟨c1,c2,c3⟩:=la.cl t k1
 rw [k2] at c2 c3
 have hk1:0≤t:=k1.1
 have h1:=la.put (m:=m) (t:=t) k1 (s:=.wait u) (S:=Stt c e t) (wa:=rcw e t) (st:=rcs e t) (kn:=adn kKn e.evs t) (sn:=adn kSn e.evs t) (fn:=adn kFn e.evs t) (l:=l) (p:=.n)
  (fun m' k =>by rw [k2] at k; exact (Option.some.inj k).symm) (fun u k =>by rw [k2] at k; cases k) (fun k =>by rw [k2] at k; cases k)
  ⟨c1,⟨fun k =>(by cases k),fun k =>(by have:=c2.2 k; cases this)⟩,c3.1,c3.2.1,c3.2.2.1,c3.2.2.2,k3⟩
  (fun x hx =>.inr ⟨fun k =>(by
   have:=(la.hd m x (by rw [e1]; exact hx)).2
   rw [k,k2] at this; cases this),by rw [e1]; exact hx⟩) (by have:=la.nd m; rw [e1] at this; exact this) (fun m' k =>(by cases k)) (fun x hx k =>(by rw [e2] at k; cases k)) trivial
 have h2:=h1.setJ (u:=u) (v:=t+1) (by omega) (by have hk2:t<c.tasks:=k1.2; have:=hd.t; omega) fun w hw k =>by
  have:w=t:=by omega
  subst this; exact abz
 have q:∀ {α:Type} {f:Int→α},upd f t (f t)=f:=fun {α f} =>funext fun y =>by
  unfold upd; split
  ·rename_i h; rw [h]
  ·rfl
 have e3:Stt c (e.pt k (ac4 (aau c) u) (t+1))=Stt c e:=funext fun t =>ann hd (f:=0) (by omega) (by omega) (by omega)
 have e4:Jo c (e.pt k (ac4 (aau c) u) (t+1))=upd (Jo c e) u (t+1):=funext fun x =>by
  by_cases ht:x=u
  ·subst ht; rw [abz]; exact atM hd hl (f:=2) (by omega) hu
  ·rw [abo ht]; exact axc hd (f:=2) (by omega) hu ht
 have e5:(e.pt k (ac4 (aau c) u) (t+1)).gt 0=e.gt 0:=avD hd (by omega) (by omega)
 refine ⟨rl,upd ts t (.wait u),?_⟩
 rw [axD]
 have e6:({ akb c (e.pt k (ac4 (aau c) u) (t+1)) (upd ts t (.wait u)) vs with hd:=afJ (fun m =>(vs m).1) m (l,Ph.n).1,ph:=afJ (fun m =>(vs m).2) m (l,Ph.n).2 }:Ab)={ akb c e ts vs with S:=upd (Stt c e) t (Stt c e t),wa:=upd (rcw e) t (rcw e t),st:=upd (rcs e) t (rcs e t),kn:=upd (adn kKn e.evs) t (adn kKn e.evs t),sn:=upd (adn kSn e.evs) t (adn kSn e.evs t),fn:=upd (adn kFn e.evs) t (adn kFn e.evs t),ts:=upd ts t (.wait u),hd:=afJ (fun m =>(vs m).1) m l,ph:=afJ (fun m =>(vs m).2) m .n,J:=upd (Jo c e) u (t+1) }:=by
  unfold akb
  rw [q,q,q,q,q,q,e3,e4,e5]; rfl
 rw [e6]
 exact h2
theorem aFz (hd:DecOk c) (ht:TOk c t) (o:Of1 c e e' t) (hin:t∈l) (hS:Stt c e' t=Stt c e t) (hs:rcs e' t=rcs e t) (hk:adn kKn e'.evs t=adn kKn e.evs t) (hn:adn kSn e'.evs t=adn kSn e.evs t) (hf:adn kFn e'.evs t=adn kFn e.evs t) {p:Ph} (hp:p=.n∨p=.j t (rcw e' t)):Lw c e e' (l,.n) (l,p):=by
 refine aDR (s0:=fun m =>.run m) (s:=fun m =>.run m) ht o (fun a m la hT hS hJ hw hh hp =>aAH la hh hin) (fun m m' k =>(Option.some.inj k).symm) (fun m u k =>by cases k) (fun m k =>by cases k) (fun m k =>by cases k) (fun m k =>k) (fun k =>by rw [hn,hs]; exact k)
  (fun m k =>?_) (fun m hn _ x hx =>?_) (fun m hn _ =>hn) (fun m m' k =>by cases k) (fun x hx k =>by cases k) fun a m la hT hJ hw hh hph e0 =>?_
 ·rw [hS,hs,hk,hf]; exact k
 ·by_cases hx2:x=t
  ·exact .inl ⟨hx2,rfl⟩
  ·exact .inr ⟨hx2,hx⟩
 ·rcases hp with rfl | rfl
  ·trivial
  ·exact ⟨hin,abz⟩
theorem aFZ (o:Of1 c e e' t) (hp:v=(l,.f t)) (ht:TOk c t) (hj:Jo c e t≠0) (hS:Stt c e' t=Stt c e t) (hw:rcw e' t=rcw e t) (hs:rcs e' t=rcs e t) (hk:adn kKn e'.evs t=adn kKn e.evs t) (hn:adn kSn e'.evs t=adn kSn e.evs t) (hf:adn kFn e'.evs t=adn kFn e.evs t+1)
  {s:Nat→Ts} {p:Ph} (hsp:(∀ m,s m=.fg m)∧p=.g t∨(∀ m,s m=.done)∧p=.n):Lw c e e' v (l,p):=by
 subst hp
 refine aDR (s0:=fun m =>.fin m) (s:=s) ht o (fun a m la hT hS hJ hw hh hp =>?_) (fun m m' k =>(Option.some.inj k).symm) (fun m u k =>by cases k) (fun m k =>by cases k) (fun m k =>?_) (fun m k =>k.elim) (fun k =>by rw [hn,hs]; exact k)
  (fun m k =>?_) (fun m hn q x hx =>.inr ⟨fun k =>(by have:=q (k▸hx); cases this),hx⟩) (fun m hn _ =>hn) (fun m m' k =>?_) (fun x hx k =>?_) fun a m la hT hJ hw2 hh hph e0 =>?_
 ·have:=la.ph m
  rw [hp] at this
  exact this.2
 ·rcases hsp with ⟨h1,_⟩ | ⟨h1,_⟩<;>rw [h1] at k<;>cases k
 ·rw [hS,hw,hs,hk,hf]
  rcases hsp with ⟨h1,_⟩ | ⟨h1,_⟩<;>rw [h1]
  ·exact ⟨k.1,k.2.1,k.2.2.1,by rw [k.2.2.2],hj⟩
  ·exact ⟨k.1,k.2.1,k.2.2.1,by rw [k.2.2.2],hj⟩
 ·rcases hsp with ⟨h1,_⟩ | ⟨h1,_⟩<;>rw [h1] at k<;>cases k
 ·cases k; exact hx rfl
 ·rcases hsp with ⟨h1,rfl⟩ | ⟨h1,rfl⟩
  ·refine ⟨okA hT ht,by simp only [abz]; exact h1 m,fun w hw3 hj2 =>?_⟩
   have h2:=la.j1 t w (okA hT ht) hw3 (by rw [e0]; exact id) hj2
   have h3:w≠t:=fun k =>by rw [k,e0] at h2; cases h2
   simp only [abo h3]; exact h2
  ·trivial
theorem aHN {w:Int} (hd:DecOk c) (hw:TOk c w) (h0:0≤Jo c e t) (hj:wi (wi (Jo c e t)-1)=w):Lw c e e (l,.g t) (l,.h t w) :=
 awm (fun x hx =>hx) (fun h =>h) (fun x k =>by cases k) fun a m la hT hJ hwa hh hp =>by
  have:=la.ph m
  rw [hp] at this
  have hb:=la.jb t this.1
  rw [hJ] at hb
  have ht:=hd.t
  have h1:0≤w∧w<c.tasks:=hw
  rw [aaK (x:=Jo c e t) (aao (by omega)),aaK (aao (by omega))] at hj
  exact ⟨this.1,this.2.1,okA hT hw,this.2.2 w (okA hT hw) (by rw [hJ]; omega)⟩
theorem aEQ (hd:DecOk c) (hl:(e.m.cells.length:Int)=aaX c) {w:Int} (hw:TOk c w):Lw c e (e.pt k (aaP (aau c) w) 1) (l,.h t w) (l,.n) :=
 aFB (s0:=.done) (s:=.done) hw (avn hd hw) fun a m la hT hS hJ hwa hst hkn hsn hfn hh hp =>by
  have hph:=la.ph m
  rw [hp] at hph
  obtain ⟨k1,k2,k3,k4⟩:=hph
  obtain ⟨c1,c2,c3⟩:=la.cl w k3
  rw [k4] at c2 c3
  rw [hsn,hst] at c1
  rw [hS,hwa,hJ,hst,hkn,hfn] at c3
  refine ⟨.ready,fun m' k =>(by rw [k4] at k; cases k),fun u k =>?_,fun k =>(by rw [k4] at k; cases k),⟨c1,⟨fun k =>(by cases k),fun k =>(by have:=c2.2 k; cases this)⟩,aoS hd hl hw,c3.2.2.1,c3.2.2.2.1⟩,fun x hx =>.inr ⟨fun k =>?_,by rw [hh]; exact hx⟩,?_,fun m' k =>(by cases k),fun x hx k =>(by rw [hp] at k; cases k),trivial⟩
  ·rw [k4] at k; cases k; exact ⟨k1,k2⟩
  ·have:=(la.hd m x (by rw [hh]; exact hx)).2
   rw [k,k4] at this; cases this
  ·have:=la.nd m; rw [hh] at this; exact this
theorem aDx (hd:DecOk c) (hl:(e.m.cells.length:Int)=aaX c) (ht:TOk c t) {w o y:Int}:Lw c e ((e.pt k (aaP (aau c) t) 1).em 3 w t o y) (l,.p t) (l,.n):=by
 refine aDR (s0:=fun m =>.alloc m) (s:=fun m =>.ready) ht ((avn hd ht).em (.inl rfl)) (fun a m la hT hS hJ hw hh hp =>?_) (fun m m' k =>(Option.some.inj k).symm) (fun m u k =>by cases k) (fun m k =>?_) (fun m k =>by cases k) (fun m k =>k.elim) (fun k =>?_)
  (fun m k =>?_) (fun m hn q x hx =>.inr ⟨fun k =>(by have:=q (k▸hx); cases this),hx⟩) (fun m hn _ =>hn) (fun m m' k =>by cases k) (fun x hx k =>by cases k) fun a m la hT hJ hw hh hp e0 =>trivial
 ·have:=la.ph m
  rw [hp] at this
  exact this.2
 ·cases k
 ·show adn kSn (e.evs++[_]) t=_
  rw [aeY,afX,if_neg (by intro h; have:=h.2; revert this; decide)]
  exact k
 ·refine ⟨aoS hd hl ht,?_,?_⟩
  ·show adn kKn (e.evs++[_]) t=1
   rw [aeY,afX,if_pos ⟨rfl,by decide⟩,k.2.2.1]
  ·show adn kFn (e.evs++[_]) t=0
   rw [aeY,afX,if_neg (by intro h; have:=h.2; revert this; decide),k.2.2.2]
theorem av6 (ht:TOk c t) {w o y:Int}:Lw c e (e.em 1 w t o y) (l,.p t) (l,.q t):=by
 refine aDR (s0:=fun m =>.alloc m) (s:=fun m =>.acc m) ht (aqP.em (.inl rfl)) (fun a m la hT hS hJ hw hh hp =>?_) (fun m m' k =>(Option.some.inj k).symm) (fun m u k =>by cases k) (fun m k =>by cases k) (fun m k =>by cases k) (fun m k =>k.elim) (fun k =>?_)
  (fun m k =>?_) (fun m hn q x hx =>.inr ⟨fun k =>(by have:=q (k▸hx); cases this),hx⟩) (fun m hn _ =>hn) (fun m m' k =>by cases k) (fun x hx k =>by cases k) fun a m la hT hJ hw hh hp e0 =>⟨okA hT ht,abz⟩
 ·have:=la.ph m
  rw [hp] at this
  exact this.2
 ·show adn kSn (e.evs++[_]) t=_
  rw [aeY,afX,if_neg (by intro h; have:=h.2; revert this; decide)]
  exact k
 ·refine ⟨k.1,k.2.1,?_,?_⟩
  ·show adn kKn (e.evs++[_]) t=1
   rw [aeY,afX,if_pos ⟨rfl,by decide⟩,k.2.2.1]
  ·show adn kFn (e.evs++[_]) t=0
   rw [aeY,afX,if_neg (by intro h; have:=h.2; revert this; decide),k.2.2.2]
theorem aDP (hd:DecOk c) (hl:(e.m.cells.length:Int)=aaX c) (ht:TOk c t):Lw c e (e.pt k (aaP (aau c) t) 1) (l,.q t) (l,.n):=by
 refine aDR (s0:=fun m =>.acc m) (s:=fun m =>.ready) ht (avn hd ht) (fun a m la hT hS hJ hw hh hp =>?_) (fun m m' k =>(Option.some.inj k).symm) (fun m u k =>by cases k) (fun m k =>by cases k) (fun m k =>by cases k) (fun m k =>k.elim) (fun k =>k)
  (fun m k =>⟨aoS hd hl ht,k.2.2.1,k.2.2.2⟩) (fun m hn q x hx =>.inr ⟨fun k =>(by have:=q (k▸hx); cases this),hx⟩) (fun m hn _ =>hn) (fun m m' k =>by cases k) (fun x hx k =>by cases k) fun a m la hT hJ hw hh hp e0 =>trivial
 have:=la.ph m
 rw [hp] at this
 exact this.2
theorem ap7 (hd:DecOk c) (hl:(e.m.cells.length:Int)=aaX c) (hL:e.l=aau c) (ht:TOk c t) (hb:adk t e=true) {w:Int}:Lw c e (aeU w t e) (l,.n) (l++[t],.n):=fun m vs hv hh =>by
 have rl:=hh.rl
 have hb2:e.hit (aaP (aau c) t) 1=true:=by unfold adk at hb; rw [hL] at hb; exact hb
 have hg:Stt c e t=1:=(avC hb2).1
 have hc:e.cas (aaP (aau c) t) 1 2=e.pt 3 (aaP (aau c) t) 2:=by
  show e.pt 3 _ (if e.m.gt _=1 then 2 else _)=_
  rw [if_pos hg]
 have rdy:∀ (a:Ab),LA a→a.T=c.tasks→a.S=Stt c e→a.ts t=.ready:=fun a la hT hS =>by
  have:=(la.cl t (okA hT ht)).2.2
  rw [hS,hg] at this
  revert this
  cases a.ts t<;>intro this<;>first | rfl | exact absurd this.1 (by decide)
 have main:∀ {e':EnvP},Of1 c e e' t→Stt c e' t=2→rcw e' t=rcw e t→rcs e' t=true→adn kKn e'.evs t=adn kKn e.evs t→adn kSn e'.evs t=(if rcs e t=true then adn kSn e.evs t else adn kSn e.evs t+1)→adn kFn e'.evs t=adn kFn e.evs t→Lw c e e' (l,.n) (l++[t],.n):=fun {e'} o h1 h2 h3 h4 h5 h6 =>by
  refine aDR (s0:=fun m =>.ready) (s:=fun m =>.run m) ht o (fun a m la hT hS hJ hw hh hp =>rdy a la hT hS) (fun m m' k =>by cases k) (fun m u k =>by cases k) (fun m k =>by cases k) (fun m k =>by cases k) (fun m k =>k.elim) (fun k =>?_)
   (fun m k =>⟨h1,h3,by rw [h4]; exact k.2.1,by rw [h6]; exact k.2.2⟩) (fun m hn q x hx =>?_) (fun m hn q =>?_) (fun m m' k =>by cases k) (fun x hx k =>by cases k) fun a m la hT hJ hw hh hp e0 =>trivial
  ·rw [h5,h3,if_pos rfl]
   split
   ·rename_i k2; rw [if_pos k2] at k; exact k
   ·rename_i k2; rw [if_neg k2] at k; omega
  ·rcases List.mem_append.1 hx with hx | hx
   ·exact .inr ⟨fun k =>(by have:=q (k▸hx); cases this),hx⟩
   ·exact .inl ⟨List.mem_singleton.1 hx,rfl⟩
  ·exact List.nodup_append.2 ⟨hn,by simp,fun a ha b hb k =>by
    rw [List.mem_singleton.1 hb] at k
    have:=q (k▸ha)
    cases this⟩
 refine main ?_ ?_ ?_ ?_ ?_ ?_ ?_ m vs hv hh<;>unfold aeU<;>rw [if_pos hb,hL,hc]
 ·split
  ·exact (avn hd ht).em (.inl rfl)
  ·exact ((avn hd ht).pr ht).em (.inl rfl)
 ·split
  ·exact aoS hd hl ht
  ·exact aoS hd hl ht
 ·split
  ·rfl
  ·show (if 0≤t then ((e.pt 3 (aaP (aau c) t) 2).pr t _).rc t |>.waiting else -1)=_
   rw [ar2 (e:=e.pt 3 (aaP (aau c) t) 2) ht rl]; rfl
 ·split
  ·rename_i k
   show (if 0≤t then (e.rc t).started else false)=true
   rw [if_pos ht.1]; exact k
  ·show (if 0≤t then ((e.pt 3 (aaP (aau c) t) 2).pr t _).rc t |>.started else false)=true
   rw [if_pos ht.1,ar2 (e:=e.pt 3 (aaP (aau c) t) 2) ht rl]
 ·split
  ·show adn kKn (e.evs++[_]) t=_
   rw [aeY,afX,if_neg (by intro h; have:=h.2; revert this; decide),Nat.add_zero]
  ·show adn kKn (e.evs++[_]) t=_
   rw [aeY,afX,if_neg (by intro h; have:=h.2; revert this; decide),Nat.add_zero]
 ·have hr:rcs e t=(e.rc t).started:=if_pos ht.1
  rw [hr]
  split
  ·show adn kSn (e.evs++[_]) t=_
   rw [aeY,afX,if_neg (by intro h; have:=h.2; revert this; decide),Nat.add_zero]
  ·show adn kSn (e.evs++[_]) t=_
   rw [aeY,afX,if_pos ⟨rfl,by decide⟩]
 ·split
  ·show adn kFn (e.evs++[_]) t=_
   rw [aeY,afX,if_neg (by intro h; have:=h.2; revert this; decide),Nat.add_zero]
  ·show adn kFn (e.evs++[_]) t=_
   rw [aeY,afX,if_neg (by intro h; have:=h.2; revert this; decide),Nat.add_zero]
theorem ap6 (hd:DecOk c) (hL:e.l=aau c) (hb:¬ adk t e=true) {w:Int}:Qs c e (aeU w t e):=by
 have hb2:¬ e.hit (aaP (aau c) t) 1=true:=by unfold adk at hb; rw [hL] at hb; exact hb
 have g:∀ a,(e.cas (aaP (aau c) t) 1 2).gt a=e.gt a:=fun a =>by rw [apa,if_neg (fun k =>hb2 k.1)]
 unfold aeU
 rw [if_neg hb,hL]
 exact Qs.em (e':=e.cas (aaP (aau c) t) 1 2) ⟨fun t =>g _,fun t =>g _,fun t =>g _,g _,rfl,[],by show e.evs=_; simp,fun x hx =>by cases hx⟩ (by omega)
theorem aBu (hd:DecOk c) (hl:(e.m.cells.length:Int)=aaX c) (hN:0≤e.gt 0∧e.gt 0≤1000000) (ht:c.tasks≤e.gt 0):Lw c e (ab6 e) v v:=fun m vs hv h =>by
 obtain ⟨rl,ts,la⟩:=h
 have:=la.next (n:=e.gt 0+1) (by show e.gt 0≤_; omega) ht
 rw [aqg hv]
 refine ⟨rl,ts,?_⟩
 have z0:∀ {t f:Int},0≤f∧f<5→f≠1→(ab6 e).gt (adx (aau c) t f)=e.gt (adx (aau c) t f):=fun {t f} hf hf1 =>by
  show (e.pt 6 0 _).gt _=_
  rw [aix,if_neg]
  intro k
  have:=axQ hd (t:=t) hf hf1 (by omega)
  rw [k.1,afY] at this
  omega
 have e0:(ab6 e).gt 0=e.gt 0+1:=by
  have:=ah5 hd
  have h4:=hd.h
  have h5:=hd.t
  show (e.pt 6 0 _).gt 0=_
  rw [aix,if_pos ⟨rfl,Int.le_refl 0,by rw [hl]; unfold aaX; omega⟩,agv (by omega)]
 have e4:akb c (ab6 e) ts vs={ akb c e ts vs with N:=e.gt 0+1 }:=by
  unfold akb
  rw [e0,show Stt c (ab6 e)=Stt c e from funext fun t =>z0 (f:=0) (by omega) (by omega),show Jo c (ab6 e)=Jo c e from funext fun t =>z0 (f:=2) (by omega) (by omega)]
  rfl
 rw [e4]; exact this
theorem azi (hd:DecOk c) (hl:(e.m.cells.length:Int)=aaX c) (hN:0≤e.gt 0∧e.gt 0≤1000000) (ht:e.gt 0<c.tasks) {p q:Int}:Lw c e ((ab6 e).pr (e.gt 0) (ayz p q)) (l,.n) (l,.p (e.gt 0)):=fun m vs hv h =>by
 obtain ⟨rl,ts,la⟩:=h
 have h1:(akb c e ts vs).hd m=l:=by show (vs m).1=_; rw [hv]
 have h2:(akb c e ts vs).ph m=.n:=by show (vs m).2=_; rw [hv]
 have:=la.alloc (m:=m) ht (l:=l) (fun x hx =>by rw [h1]; exact hx) (by have:=la.nd m; rw [h1] at this; exact this) h2
 have z0:∀ {t f:Int},0≤f∧f<5→f≠1→(ab6 e).gt (adx (aau c) t f)=e.gt (adx (aau c) t f):=fun {t f} hf hf1 =>by
  show (e.pt 6 0 _).gt _=_
  rw [aix,if_neg]
  intro k
  have:=axQ hd (t:=t) hf hf1 (by omega)
  rw [k.1,afY] at this
  omega
 have e0:(ab6 e).gt 0=e.gt 0+1:=by
  have:=ah5 hd
  have h4:=hd.h
  have h5:=hd.t
  show (e.pt 6 0 _).gt 0=_
  rw [aix,if_pos ⟨rfl,Int.le_refl 0,by rw [hl]; unfold aaX; omega⟩,agv (by omega)]
 have tk:TOk c (e.gt 0):=⟨hN.1,ht⟩
 have r1:rcw ((ab6 e).pr (e.gt 0) (ayz p q))=upd (rcw e) (e.gt 0) (-1):=funext fun x =>by
  by_cases hx:x=e.gt 0
  ·rw [hx,abz]
   show (if 0≤e.gt 0 then (((ab6 e).pr (e.gt 0) (ayz p q)).rc (e.gt 0)).waiting else -1)=-1
   rw [if_pos hN.1,ar2 (e:=ab6 e) tk rl]; rfl
  ·rw [abo hx]; unfold rcw
   split
   ·rename_i h0; rw [aAS hN.1 hx h0]; rfl
   ·rfl
 have r2:rcs ((ab6 e).pr (e.gt 0) (ayz p q))=upd (rcs e) (e.gt 0) false:=funext fun x =>by
  by_cases hx:x=e.gt 0
  ·rw [hx,abz]
   show (if 0≤e.gt 0 then (((ab6 e).pr (e.gt 0) (ayz p q)).rc (e.gt 0)).started else false)=false
   rw [if_pos hN.1,ar2 (e:=ab6 e) tk rl]; rfl
  ·rw [abo hx]; unfold rcs
   split
   ·rename_i h0; rw [aAS hN.1 hx h0]; rfl
   ·rfl
 refine ⟨by show ((e.recs.set _ _).length:Int)=_; rw [List.length_set]; exact rl,upd ts (e.gt 0) (.alloc m),?_⟩
 rw [axD]
 have e4:({ akb c ((ab6 e).pr (e.gt 0) (ayz p q)) (upd ts (e.gt 0) (.alloc m)) vs with hd:=afJ (fun m =>(vs m).1) m (l,Ph.p (e.gt 0)).1,ph:=afJ (fun m =>(vs m).2) m (l,Ph.p (e.gt 0)).2 }:Ab)={ akb c e ts vs with N:=e.gt 0+1,st:=upd (rcs e) (e.gt 0) false,wa:=upd (rcw e) (e.gt 0) (-1),ts:=upd ts (e.gt 0) (.alloc m),hd:=afJ (fun m =>(vs m).1) m l,ph:=afJ (fun m =>(vs m).2) m (.p (e.gt 0)) }:=by
  unfold akb
  rw [r1,r2,show ((ab6 e).pr (e.gt 0) (ayz p q)).gt 0=e.gt 0+1 from e0,show Stt c ((ab6 e).pr (e.gt 0) (ayz p q))=Stt c e from funext fun t =>z0 (f:=0) (by omega) (by omega),show Jo c ((ab6 e).pr (e.gt 0) (ayz p q))=Jo c e from funext fun t =>z0 (f:=2) (by omega) (by omega)]
  rfl
 rw [e4]; exact this
end
end
def vwR (r:RunS):Vw:=match r.c with
 | .next =>(r.stack,.n)
 | .s2 _ =>(r.stack,.p r.id)
 | .s3 _ =>(r.stack,.n)
 | .s4 _ =>(r.stack,.n)
 | .s5 =>(r.stack,.n)
 | .j2 =>(r.stack,.j (aaC r.stack) r.child)
 | .j3 =>(r.stack.dropLast,.b (aaC r.stack) r.child)
 | .j4 =>(r.stack.dropLast,.n)
 | .j5 _ =>(r.stack.dropLast,.n)
 | .j6 =>(r.stack.dropLast,.r (aaC r.stack))
 | .j7 =>(r.stack,.n)
 | .f2 =>(r.stack.dropLast,.f (aaC r.stack))
 | .f3 =>(r.stack.dropLast,.g (aaC r.stack))
 | .f4 .l1 =>(r.stack.dropLast,.h (aaC r.stack) r.waiter)
 | .f4 .l2 =>(r.stack.dropLast,.h (aaC r.stack) r.waiter)
 | .f4 .l3 =>(r.stack.dropLast,.n)
 | .f4 (.l4 _ _) =>(r.stack.dropLast,.n)
 | .f5 _ _ =>(r.stack.dropLast,.n)
 | .f6 =>(r.stack.dropLast,.n)
def vwO:Rs RunS→Vw
 | .go r =>vwR r
 | .fin _ _ =>([],.n)
section
variable {c:Cfg} {e e':EnvP} {w:Int} {v:Vw}
def aC6 (c:Cfg) (e:EnvP) (v:Vw) (o:Rs RunS×EnvP):Prop:=Lw c e o.2 v (vwO o.1)∧o.1.Q (fun r =>r.stack≠[]) fun _ _ =>True
theorem aC6.ite {P:Prop} [Decidable P] {a b:Rs RunS×EnvP} (h1:P→aC6 c e v a) (h2:¬ P→aC6 c e v b):aC6 c e v (if P then a else b):=by
 split
 ·exact h1 ‹_›
 ·exact h2 ‹_›
theorem aAl {l:List Int} (h:l≠[]):l.dropLast++[aaC l]=l:=by
 have e1:aaC l=l.getLast h:=by unfold aaC; rw [List.getLast?_eq_some_getLast h]; rfl
 rw [e1]
 exact List.dropLast_concat_getLast h
theorem awj {l:List Int} (h:l≠[]):aaC l∈l:=by
 have h1:aaC l∈l.dropLast++[aaC l]:=by simp
 rwa [aAl h] at h1
theorem aq3 {r:RunS} (h:Lw c e e' v (r.stack.dropLast,.n)) (hs:r.stack≠[]):aC6 c e v (aia r e'):=by
 unfold aia aC6
 by_cases h1:r.stack.length=1
 ·rw [if_pos h1]
  have:r.stack.dropLast=[]:=List.eq_nil_of_length_eq_zero (by rw [List.length_dropLast]; omega)
  rw [this] at h
  exact ⟨h,trivial⟩
 ·rw [if_neg h1]
  refine ⟨h,fun k =>?_⟩
  have:r.stack.dropLast.length=0:=by rw [show r.stack.dropLast=[] from k]; rfl
  rw [List.length_dropLast] at this
  have:r.stack.length≠0:=fun k =>hs (List.eq_nil_of_length_eq_zero k)
  omega
theorem aAR {t:Int} {r:RecP} (ht:TOk c t) (hr:(e.recs.length:Int)=c.tasks):rcs (e.pr t r) t=r.started:=by
 unfold rcs; rw [if_pos ht.1,ar2 ht hr]
theorem aAQ {t:Int} {r:RecP} (ht:TOk c t) (hr:(e.recs.length:Int)=c.tasks):rcw (e.pr t r) t=r.waiting:=by
 unfold rcw; rw [if_pos ht.1,ar2 ht hr]
theorem aFA {t:Int} (ht:TOk c t):rcs e t=(e.rc t).started:=if_pos ht.1
theorem aFQ {a o x:Int} (hm:¬ e.hit a o=true):Qs c e (e.cas a o x):=by
 have g:∀ b,(e.cas a o x).gt b=e.gt b:=fun b =>by rw [apa,if_neg (fun k =>hm k.1)]
 exact ⟨fun t =>g _,fun t =>g _,fun t =>g _,g _,rfl,[],by show e.evs=_; simp,fun x hx =>by cases hx⟩
theorem aFX {a o x:Int} (hm:e.hit a o=true):e.cas a o x=e.pt 3 a x:=by
 show e.pt 3 _ (if e.m.gt _=o then x else _)=_
 rw [if_pos (avC hm).1]
theorem aKj (h:DecOk c) {t f o:Int} (hf:0≤f∧f<5) (hm:e.hit (adx (aau c) t f) o=true):TOk c t:=by
 have h1:=(avC hm).2
 have e1:=aeq h (t:=t) hf
 by_cases ht:0≤t∧t<c.tasks
 ·exact ht
 ·rw [e1,if_neg ht] at h1; omega
theorem aDU (hd:DecOk c) {t:Int} {l:List Int} {r:RecP} (ht:TOk c t) (hr:(e.recs.length:Int)=c.tasks) (hin:t∈l) (hs:r.started=(e.rc t).started) {p:Ph} (hp:p=.n∨p=.j t r.waiting):Lw c e (e.pr t r) (l,.n) (l,p) :=
 aFz hd ht (aqP.pr ht) hin rfl (by rw [aAR ht hr,aFA ht,hs]) rfl rfl rfl (by rw [aAQ ht hr]; exact hp)
theorem aAW (hd:DecOk c) {t k x:Int} {l:List Int} {r:RecP} (ht:TOk c t) (hr:(e.recs.length:Int)=c.tasks) (hin:t∈l) (hs:r.started=(e.rc t).started) {p:Ph} (hp:p=.n∨p=.j t r.waiting):Lw c e ((e.pt k (aeS (aau c) t) x).pr t r) (l,.n) (l,p) :=
 aFz hd ht ((aqP.wt hd).pr ht) hin (ann hd (f:=0) (by omega) (by omega) (by omega)) (by rw [aAR (e:=e.pt k (aeS (aau c) t) x) ht hr,aFA ht,hs]) rfl rfl rfl (by rw [aAQ (e:=e.pt k (aeS (aau c) t) x) ht hr]; exact hp)
theorem aKX {t:Int} {l:List Int} {v':Vw} (hf:¬ TOk c t):Lw c e e (l,.f t) v':=fun m vs hv h =>by
 obtain ⟨rl,ts,la⟩:=h
 have:=la.ph m
 have e2:(akb c e ts vs).ph m=.f t:=by show (vs m).2=_; rw [hv]
 rw [e2] at this
 exact absurd this.1 hf
theorem aKA (hf:∀ x,v.2=.f x→¬ TOk c x):Lw c e e v ([],.n):=by
 obtain ⟨l,p⟩:=v
 cases p with
 | f t =>exact aKX (hf t rfl)
 | _ =>exact .drop (fun x hx =>by cases hx) (fun _ =>.nil) (fun x k =>by cases k)
theorem aIq {x:RecP} {i:Ins}:(atX x i).started=x.started:=by
 unfold atX
 repeat' split
 all_goals rfl
theorem aJ0 {t:Int} {r:RunS} (h:MI c e) (hl:(e.m.cells.length:Int)=aaX c) (hN:0≤e.gt 0∧e.gt 0≤1000000) (hr:(e.recs.length:Int)=c.tasks) (ht:TOk c t) (hc:r.c=.next) (hs:r.stack≠[]) (htop:aaC r.stack=t):aC6 c e (r.stack,.n) (apz w e r t (e.rc t) (e.prog (e.rc t))):=by
 have hp:vwR r=(r.stack,.n):=by unfold vwR; rw [hc]
 have hin:t∈r.stack:=htop▸awj hs
 have hgo:∀ {e':EnvP},Lw c e e' (r.stack,.n) (r.stack,.n)→aC6 c e (r.stack,.n) (.go r,e'):=fun h =>⟨by show Lw c e _ _ (vwR r); rw [hp]; exact h,hs⟩
 unfold apz
 rw [h.l]
 refine .ite (fun _ =>hgo (aAW (r:={ e.rc t with waiting := -1 }) h.d ht hr hin rfl (.inl rfl))) fun _ =>?_
 refine .ite (fun _ =>⟨?_,hs⟩) fun _ =>?_
 ·show Lw c e _ _ (r.stack.dropLast,.f (aaC r.stack))
  have:=aIl (e:=e) (k:=2) (l:=r.stack.dropLast) h.d hl ht
  rw [← htop,aAl hs] at this
  rw [← htop]; exact this
 refine .ite (fun _ =>hgo (aDU h.d ht hr hin aIq (.inl rfl))) fun _ =>?_
 refine .ite (fun _ =>?_) fun _ =>?_
 ·have e1:wi (e.gt 0)=e.gt 0:=aaK (aao (by omega))
  rw [e1]
  refine .ite (fun hn =>⟨?_,hs⟩) fun hn =>hgo ?_
  ·have hn:TOk c (e.gt 0):=by unfold IsT at hn; rw [h.cc] at hn; exact hn
   refine Lw.trans (aDU (r:={ e.rc t with pc:=wi ((e.rc t).pc+1),kids:=(e.rc t).kids++[e.gt 0] }) h.d ht hr hin rfl (.inl rfl)) ?_
   exact azi (e:=e.pr t _) h.d hl hN hn.2
  ·have hn:¬ TOk c (e.gt 0):=by unfold IsT at hn; rw [h.cc] at hn; exact hn
   refine Lw.em (by omega) (Lw.trans (aDU (r:={ e.rc t with pc:=wi ((e.rc t).pc+1),kids:=(e.rc t).kids++[-1] }) h.d ht hr hin rfl (.inl rfl)) ?_)
   refine aBu (e:=e.pr t _) h.d hl hN ?_
   show c.tasks≤e.gt 0
   exact Int.not_lt.1 fun k =>hn ⟨hN.1,k⟩
 ·refine .ite (fun _ =>hgo (aDU (r:={ e.rc t with pc:=wi ((e.rc t).pc+1) }) h.d ht hr hin rfl (.inl rfl))) fun _ =>⟨?_,hs⟩
  have:=aAW (e:=e) (k:=2) (x:=wu (wi (acg (e.rc t).kids (acB (e.prog (e.rc t)) (e.rc t).pc).a+1))) (r:={ e.rc t with pc:=wi ((e.rc t).pc+1),waiting:=acg (e.rc t).kids (acB (e.prog (e.rc t)) (e.rc t).pc).a }) h.d ht hr hin rfl (.inr rfl)
  rw [← htop] at this ⊢
  exact this
theorem aLD {r:RunS} (h:MI c e) (hl:(e.m.cells.length:Int)=aaX c) (hN:0≤e.gt 0∧e.gt 0≤1000000) (hrl:(e.recs.length:Int)=c.tasks) (hr:aIA c r) (hs:r.stack≠[]):aC6 c e (vwR r) (awb w e r):=by
 unfold awb
 refine .ite (fun ht =>⟨aKA fun x hx =>?_,trivial⟩) fun ht =>?_
 ·unfold IsT at ht
  rw [h.cc] at ht
  revert hx
  obtain ⟨stack,id,child,level,waiter,k⟩:=r
  cases k with
  | f2 =>intro k; cases k; exact ht
  | f4 s =>cases s<;>(intro k; cases k)
  | _ =>intro k; cases k
 replace ht:IsT e (aaC r.stack):=Classical.not_not.1 ht
 unfold IsT at ht
 rw [h.cc] at ht
 obtain ⟨stack,id,child,level,waiter,k⟩:=r
 replace ht:TOk c (aaC stack):=ht
 replace hs:stack≠[]:=hs
 have hst:=aAl hs
 have hin:=awj hs
 have ht2:0≤aaC stack∧aaC stack<c.tasks:=ht
 have htt:=h.d.t
 show aC6 c e _ (aec w e _ (aaC stack))
 cases k with
 | next =>exact aJ0 h hl hN hrl ht rfl hs rfl
 | s2 s =>
  obtain ⟨h1,h2⟩:=hr
  simp only [aec,afR]
  have hi:¬ ¬ IsT e id:=by unfold IsT; rw [h.cc]; exact fun h =>h h1
  rw [if_neg hi,h.l]
  cases s with
  | l1 =>exact ⟨Lw.q (.wr h.d (alc h.d)) .refl,hs⟩
  | l2 =>exact ⟨Lw.q (.since h.d) .refl,hs⟩
  | l3 =>exact ⟨aDx h.d hl h1,hs⟩
 | s3 s =>
  have:=aqW (w:=w) (v:=level) (x:=id) h s hr.2
  simp only [aec]
  revert this
  rcases abO w level id e s with ⟨o,e'⟩
  intro this
  cases o with
  | go s =>exact ⟨Lw.q this .refl,hs⟩
  | fin c0 v0 =>
   simp only
   split
   ·exact ⟨Lw.q this .refl,hs⟩
   ·exact ⟨Lw.q this .refl,hs⟩
 | s4 s =>
  have:=auB (w:=w) (v:=level) h s
  simp only [aec]
  revert this
  rcases aez w level e s with ⟨o,e'⟩
  intro this
  cases o with
  | go s =>exact ⟨Lw.q this .refl,hs⟩
  | fin c0 v0 =>exact ⟨Lw.q this .refl,hs⟩
 | s5 =>
  simp only [aec]
  split
  ·rename_i hb
   exact ⟨ap7 h.d hl h.l hr hb,by show stack++[id]≠[]; simp⟩
  ·rename_i hb
   exact ⟨Lw.q (ap6 h.d h.l hb) .refl,hs⟩
 | j2 =>
  simp only [aec]
  rw [h.l]
  refine ⟨?_,hs⟩
  have:=aHJ (e:=e) (k:=2) (l:=stack.dropLast) (u:=child) h.d hl ht
  rw [hst] at this
  exact this
 | j3 =>
  simp only [aec]
  rw [h.l]
  have e1:wu (wi (aaC stack+1))=aaC stack+1:=by rw [aaK (x:=aaC stack+1) (aao (by omega)),agv (by omega)]
  rw [e1]
  refine .ite (fun hb =>⟨?_,hs⟩) fun hb =>⟨?_,hs⟩
  ·rw [aFX hb]
   exact Lw.em (by omega) (aKk h.d hl (aKj h.d (f:=2) (by omega) hb))
  ·exact Lw.qr (aFQ hb) aHI
 | j4 =>exact ⟨Lw.q .lk .refl,hs⟩
 | j5 s =>
  have:=aIX (w:=w) (v:=level) h s hr
  simp only [aec]
  revert this
  rcases aeL w level e s with ⟨o,e'⟩
  intro this
  cases o with
  | go s =>exact ⟨Lw.q this .refl,hs⟩
  | fin c0 v0 =>exact aq3 (Lw.em (by omega) (Lw.q this .refl)) hs
 | j6 =>
  simp only [aec]
  rw [h.l]
  refine ⟨?_,hs⟩
  have:=aIy (e:=e) (k:=2) (l:=stack.dropLast) h.d hl ht
  rw [hst] at this
  exact this
 | j7 =>
  simp only [aec]
  rw [h.l]
  exact ⟨Lw.em (by omega) (aAW (r:={ e.rc (aaC stack) with waiting := -1 }) h.d ht hrl hin rfl (.inl rfl)),hs⟩
 | f2 =>
  simp only [aec]
  rw [h.l]
  have cz:∀ {e1:EnvP} {q:Int→Bool},(e1.evs=e.evs)→q 10=false→adn q (e1.em 10 w (aaC stack) 0 0).evs (aaC stack)=adn q e1.evs (aaC stack):=fun {e1 q} _ hq =>by
   show adn q (e1.evs++[_]) _=_
   rw [aeY,afX,hq,if_neg (by rintro ⟨_,h⟩; cases h),Nat.add_zero]
  have co:∀ {e1:EnvP},adn kFn (e1.em 10 w (aaC stack) 0 0).evs (aaC stack)=adn kFn e1.evs (aaC stack)+1:=fun {e1} =>by
   show adn kFn (e1.evs++[_]) _=_
   rw [aeY,afX,if_pos ⟨rfl,by decide⟩]
  refine .ite (fun hb =>aq3 ?_ hs) fun hb =>⟨?_,hs⟩
  ·rw [aFX hb]
   refine Lw.trans (aGO (k:=3) (x:=4294967296) (v:=(stack.dropLast,.f (aaC stack))) h.d hl ht (by omega) (by omega) fun a m la hT hw hh hp w hw k =>?_) (aFZ (e:=e.pt 3 (ac4 (aau c) (aaC stack)) 4294967296) (v:=(stack.dropLast,.f (aaC stack))) (s:=fun _ =>.done) (aqP.em (.inl rfl)) rfl ht ?_ rfl rfl rfl (cz rfl (by decide)) (cz rfl (by decide)) co (.inr ⟨fun _ =>rfl,rfl⟩))
   ·have hw:0≤w∧w<c.tasks:=hw
    omega
   ·rw [show Jo c (e.pt 3 (ac4 (aau c) (aaC stack)) 4294967296) (aaC stack)=4294967296 from atM h.d hl (f:=2) (by omega) ht]
    omega
  ·refine Lw.trans (Lw.q (aFQ (x:=4294967296) hb) .refl) (aFZ (e:=e.cas (ac4 (aau c) (aaC stack)) 0 4294967296) (v:=(stack.dropLast,.f (aaC stack))) (s:=fun m =>.fg m) (aqP.em (.inl rfl)) rfl ht ?_ rfl rfl rfl (cz rfl (by decide)) (cz rfl (by decide)) co (.inl ⟨fun _ =>rfl,rfl⟩))
   intro k
   have g:(e.cas (ac4 (aau c) (aaC stack)) 0 4294967296).gt (ac4 (aau c) (aaC stack))=e.gt (ac4 (aau c) (aaC stack)):=by rw [apa,if_neg (fun k =>hb k.1)]
   replace k:e.gt (ac4 (aau c) (aaC stack))=0:=g▸k
   apply hb
   have hrg:=aGj h.d (f:=2) (by omega) ht
   have hrg:0≤ac4 (aau c) (aaC stack)∧ac4 (aau c) (aaC stack)<aaX c:=hrg
   show decide ((0≤ac4 (aau c) (aaC stack)∧ac4 (aau c) (aaC stack)<(e.m.cells.length:Int))∧agR e.m.cells (ac4 (aau c) (aaC stack))=0)=true
   rw [decide_eq_true_iff]
   refine ⟨by omega,?_⟩
   have k2:e.m.gt (ac4 (aau c) (aaC stack))=0:=k
   unfold MemV.gt at k2
   rw [if_pos (by omega)] at k2
   exact k2
 | f3 =>
  simp only [aec]
  rw [h.l]
  refine .ite (fun hn =>⟨?_,hs⟩) fun _ =>aq3 (Lw.q .lk (.drop (fun x hx =>hx) (fun h =>h) (fun x k =>by cases k))) hs
  unfold IsT at hn
  rw [h.cc] at hn
  exact Lw.qr .lk (aHN h.d hn (h.p _) rfl)
 | f4 s =>
  obtain ⟨h1,h2⟩:=hr
  have h1:TOk c waiter:=h1
  have hi:¬ ¬ IsT e waiter:=by unfold IsT; rw [h.cc]; exact fun h =>h h1
  simp only [aec]
  cases s with
  | l1 =>
   simp only [adX]
   rw [if_neg hi,h.l]
   exact ⟨Lw.q (.since h.d) .refl,hs⟩
  | l2 =>
   simp only [adX]
   rw [h.l]
   exact ⟨aEQ h.d hl h1,hs⟩
  | l3 =>exact ⟨Lw.q .lk .refl,hs⟩
  | l4 v0 s =>
   have:=aqW (w:=w) (v:=v0) (x:=waiter) h s h2
   simp only [adX]
   revert this
   rcases abO w v0 waiter e s with ⟨o,e'⟩
   intro this
   cases o with
   | go s =>exact ⟨Lw.q this .refl,hs⟩
   | fin c0 v1 =>
    simp only
    split
    ·exact ⟨Lw.q this .refl,hs⟩
    ·exact ⟨Lw.q this .refl,hs⟩
 | f5 v0 s =>
  have:=auB (w:=w) (v:=v0) h s
  simp only [aec]
  revert this
  rcases aez w v0 e s with ⟨o,e'⟩
  intro this
  cases o with
  | go s =>exact ⟨Lw.q this .refl,hs⟩
  | fin c0 v0 =>exact aq3 (Lw.q this .refl) hs
 | f6 =>
  simp only [aec]
  refine .ite (fun hb =>⟨ap7 h.d hl h.l hr hb,by show stack.dropLast++[waiter]≠[]; simp⟩) fun hb =>aq3 (Lw.q (ap6 h.d h.l hb) .refl) hs
def vwW (k:WorkS):Vw:=match k.c with
 | .t7 s =>vwR s
 | _ =>([],.n)
def av8 (k:WorkS):Prop:=match k.c with
 | .t7 s =>s.stack≠[]
 | _ =>True
def auo (c:Cfg) (e:EnvP) (v:Vw) (o:WorkS×EnvP):Prop:=Lw c e o.2 v (vwW o.1)∧av8 o.1
theorem auo.ite {P:Prop} [Decidable P] {a b:WorkS×EnvP} (h1:P→auo c e v a) (h2:¬ P→auo c e v b):auo c e v (if P then a else b):=by
 split
 ·exact h1 ‹_›
 ·exact h2 ‹_›
theorem auo.ite1 {P:Prop} [Decidable P] {a b:WorkS} {e':EnvP} (h1:P→auo c e v (a,e')) (h2:¬ P→auo c e v (b,e')):auo c e v (if P then a else b,e'):=by
 split
 ·exact h1 ‹_›
 ·exact h2 ‹_›
theorem az6 {k:WorkS} (hk:av8 k):av8 { k with c:=abZ w e k }∧vwW { k with c:=abZ w e k }=vwW k:=by
 obtain ⟨a,b,d,x,g⟩:=k
 cases g with
 | top =>
  unfold abZ
  simp only
  split
  ·exact ⟨trivial,rfl⟩
  ·exact ⟨trivial,rfl⟩
 | _ =>exact ⟨hk,rfl⟩
theorem aFo {k:WorkS} (h:MI c e) (hl:(e.m.cells.length:Int)=aaX c) (hN:0≤e.gt 0∧e.gt 0≤1000000) (hrl:(e.recs.length:Int)=c.tasks) (hk:aup c k) (hh:av8 k):auo c e (vwW k) (abu w e k):=by
 have hB:=(awh (w:=w) h hk).1
 have hB2:=az6 (w:=w) (e:=e) hh
 have z:∀ {e':EnvP},Qs c e e'→Lw c e e' ([],.n) ([],.n):=fun h =>Lw.q h .refl
 unfold abu
 revert hB hB2
 generalize abZ w e k=kc
 intro h1 ⟨h2,h3⟩
 rw [← h3]
 cases kc with
 | top =>exact ⟨by rw [h3]; exact .refl,hh⟩
 | t1 t s =>
  have:=aGm (w:=w) (t:=t) h s h1.2
  simp only
  revert this
  rcases abh w t e s with ⟨o,e'⟩
  intro this
  cases o with
  | go s =>exact ⟨z this,trivial⟩
  | fin c0 v0 =>exact ⟨z this,trivial⟩
 | t2 s =>
  cases s with
  | pop s =>
   have:=aKa (w:=w) h s
   simp only [akg]
   revert this
   rcases agD w e s with ⟨o,e'⟩
   intro this
   cases o with
   | go s =>exact ⟨z this,trivial⟩
   | fin c0 v0 =>
    simp only
    by_cases hc:c0=2
    ·rw [if_pos hc]; exact ⟨z this,trivial⟩
    ·rw [if_neg hc]; exact ⟨z this,trivial⟩
  | claim t =>
   simp only [akg]
   by_cases hb:adk t e=true
   ·rw [if_pos hb]
    exact ⟨ap7 (l:=[]) h.d hl h.l h1 hb,by show [t]≠[]; simp⟩
   ·rw [if_neg hb]
    exact ⟨z (ap6 h.d h.l hb),trivial⟩
 | t3 s =>
  have:=aIj (w:=w) h s h1
  simp only
  revert this
  rcases aa8 w e s with ⟨o,e'⟩
  intro this
  cases o with
  | go s =>exact ⟨z this,trivial⟩
  | fin c0 v0 =>
   refine .ite1 (fun hc =>⟨z this,trivial⟩) fun _ =>.ite1 (fun _ =>⟨z this,trivial⟩) fun _ =>?_
   unfold apE
   split
   ·exact ⟨z this,trivial⟩
   ·exact ⟨z this,trivial⟩
 | t4 s =>
  have:=aHd (c:=c) (w:=w) (e:=e) s
  simp only
  revert this
  rcases ajR w e s with ⟨o,e'⟩
  intro this
  cases o with
  | go s =>exact ⟨z this,trivial⟩
  | fin c0 v0 =>exact .ite1 (fun hc =>⟨z this,trivial⟩) fun _ =>⟨z this,trivial⟩
 | t5 s =>
  have:=aGy (w:=k.victim) (v:=k.level) h s
  simp only
  rw [h.l]
  revert this
  rcases ahE (aav (aau c) k.victim k.level) e s with ⟨o,e'⟩
  intro this
  cases o with
  | go s =>exact ⟨z this,trivial⟩
  | fin c0 v0 =>exact .ite (fun hc =>⟨z (this.em (by omega)),trivial⟩) fun _ =>.ite (fun _ =>⟨z this,trivial⟩) fun _ =>⟨z this,trivial⟩
 | t6 =>
  have h1:TOk c k.x:=h1
  simp only
  by_cases hb:adk k.x e=true
  ·rw [if_pos hb]
   exact ⟨ap7 (l:=[]) h.d hl h.l h1 hb,by show [k.x]≠[]; simp⟩
  ·rw [if_neg hb]
   exact ⟨z (ap6 h.d h.l hb),trivial⟩
 | t7 s =>
  have:=aLD (w:=w) h hl hN hrl h1 h2
  simp only
  revert this
  rcases awb w e s with ⟨o,e'⟩
  intro this
  cases o with
  | go s =>exact this
  | fin c0 v0 =>exact ⟨this.1,trivial⟩
 | t8 s =>
  have:=aGF (w:=w) h s
  simp only
  revert this
  rcases adN w e s with ⟨o,e'⟩
  intro this
  cases o with
  | go s =>exact ⟨z this,trivial⟩
  | fin c0 v0 =>exact ⟨z this,trivial⟩
 | t9 s =>
  have:=aAM (w:=k.victim) (v:=k.level) (a:=k.victim) (b:=k.level) h s
  simp only
  rw [h.l]
  revert this
  rcases afw (aaI (aau c) k.victim) k.level (aav (aau c) k.victim k.level) e s with ⟨o,e'⟩
  intro this
  cases o with
  | go s =>exact ⟨z this,trivial⟩
  | fin c0 v0 =>exact ⟨z this,trivial⟩
def vwC (k:ClieS):Vw:=match k.c with
 | .n4 =>([],.p k.id)
 | .n5 =>([],.p k.id)
 | .n6 =>([],.p k.id)
 | .a6 _ =>([],.p k.id)
 | .n7 =>([],.q k.id)
 | _ =>([],.n)
theorem Lw.of_q {t:Int} {l:List Int} {v':Vw} (H:TOk c t→Lw c e e' (l,.q t) v'):Lw c e e' (l,.q t) v':=fun m vs hv h =>by
 obtain ⟨ts,la⟩:=h.la
 have:=la.ph m
 have e2:(akb c e ts vs).ph m=.q t:=by show (vs m).2=_; rw [hv]
 rw [e2] at this
 exact H this.1 m vs hv h
theorem aF5 {k:ClieS} {me:Int} (h:MI c e) (hl:(e.m.cells.length:Int)=aaX c) (hN:0≤e.gt 0∧e.gt 0≤1000000) (hrl:(e.recs.length:Int)=c.tasks) (hk:aCX c k):Lw c e (ajJ c.subs me e k).2.2 (vwC k) (vwC (ajJ c.subs me e k).2.1):=by
 have z:∀ {e':EnvP},Qs c e e'→Lw c e e' ([],.n) ([],.n):=fun h =>Lw.q h .refl
 have ite:∀ {P:Prop} [Decidable P] {a b:Bool×ClieS×EnvP} {v:Vw},(P→Lw c e a.2.2 v (vwC a.2.1))→(¬ P→Lw c e b.2.2 v (vwC b.2.1))→Lw c e (if P then a else b).2.2 v (vwC (if P then a else b).2.1):=fun h1 h2 =>by
  split
  ·exact h1 ‹_›
  ·exact h2 ‹_›
 unfold ajJ
 refine ite (fun _ =>.refl) fun hi =>?_
 obtain ⟨i,id,acc,g⟩:=k
 obtain ⟨h0,h1⟩:=hk
 show Lw c e (abf c.subs me e ⟨i,id,acc,g⟩ (ac5 c.subs i)).2.2 _ (vwC (abf c.subs me e ⟨i,id,acc,g⟩ (ac5 c.subs i)).2.1)
 have e1:wi (e.gt 0)=e.gt 0:=aaK (aao (by omega))
 cases g with
 | n1 =>
  simp only [abf]
  by_cases hh:e.hit 1 0=true
  ·rw [if_pos hh]; exact z (avv h)
  ·rw [if_neg hh]; exact z (avv h)
 | a1 =>
  simp only [abf]
  by_cases hh:e.hit 1 0=true
  ·rw [if_pos hh]; exact z (avv h)
  ·rw [if_neg hh]; exact z (avv h)
 | n2 =>
  simp only [abf]
  exact ite (fun _ =>Lw.em (by omega) (z .lk)) fun _ =>z .lk
 | n3 =>
  simp only [abf]
  rw [e1]
  refine ite (fun hn =>?_) fun hn =>Lw.em (by omega) ?_
  ·have hn:TOk c (e.gt 0):=by unfold IsT at hn; rw [h.cc] at hn; exact hn
   exact azi h.d hl hN hn.2
  ·have hn:¬ TOk c (e.gt 0):=by unfold IsT at hn; rw [h.cc] at hn; exact hn
   exact aBu h.d hl hN (Int.not_lt.1 fun k =>hn ⟨hN.1,k⟩)
 | n4 =>
  simp only [abf]
  rw [h.l]
  exact Lw.q (.wr h.d (alc h.d)) .refl
 | n5 =>
  simp only [abf]
  rw [h.l]
  exact Lw.q (.since h.d) .refl
 | n6 =>
  have h1:TOk c id:=h1
  have:=ayI (d:=(ac5 c.subs i).deadline) (t:=id) h .l1
  simp only [abf]
  revert this
  rcases acf (ac5 c.subs i).deadline id e .l1 with ⟨o,e'⟩
  intro this
  cases o with
  | go s =>exact Lw.q this .refl
  | fin c0 v0 =>exact ite (fun _ =>Lw.trans (Lw.q this .refl) (av6 h1)) fun _ =>Lw.q this (.drop (fun x hx =>hx) (fun h =>h) (fun x k =>by cases k))
 | a6 s =>
  have h2:TOk c id:=h1.1
  have:=ayI (d:=(ac5 c.subs i).deadline) (t:=id) h s
  simp only [abf]
  revert this
  rcases acf (ac5 c.subs i).deadline id e s with ⟨o,e'⟩
  intro this
  cases o with
  | go s =>exact Lw.q this .refl
  | fin c0 v0 =>exact ite (fun _ =>Lw.trans (Lw.q this .refl) (av6 h2)) fun _ =>Lw.q this (.drop (fun x hx =>hx) (fun h =>h) (fun x k =>by cases k))
 | n7 =>
  simp only [abf]
  rw [h.l]
  exact Lw.of_q fun ht =>aDP h.d hl ht
 | n8 =>
  simp only [abf]
  exact ite (fun _ =>z (aBP h)) fun _ =>z (aBP h)
 | n9 =>
  have:=auB (w:=me) (v:=(ac5 c.subs i).level) h (.l1 0)
  simp only [abf]
  revert this
  rcases aez me (ac5 c.subs i).level e (.l1 0) with ⟨o,e'⟩
  intro this
  cases o with
  | go s =>exact z this
  | fin c0 v0 =>exact z this
 | a9 t =>
  have:=auB (w:=me) (v:=(ac5 c.subs i).level) h t
  simp only [abf]
  revert this
  rcases aez me (ac5 c.subs i).level e t with ⟨o,e'⟩
  intro this
  cases o with
  | go s =>exact z this
  | fin c0 v0 =>exact z this
end
section
variable {c:Cfg} {N:Nat} {e e':EnvP} {vs:Nat→Vw} {w:WorkerV MV} {l:ClientV MV} {v:Vw}
theorem Rz.nx (h:Rz c e e'):e'.gt 0=e.gt 0:=by
 rcases h with h | ⟨t,v,h⟩
 ·exact h.nx
 ·exact h.nx
theorem Rz.evs (h:Rz c e e'):∃ l,e'.evs=e.evs++l:=by
 rcases h with h | ⟨t,v,h⟩
 ·obtain ⟨l,hl,_⟩:=h.ev; exact ⟨l,hl⟩
 ·obtain ⟨k,w,o,l,_,hl,_⟩:=h.ev; exact ⟨_,hl⟩
theorem Tr.nx {p q:asG} (h:Tr c e e' p q) (h0:0≤e.gt 0∧e.gt 0≤1000000):e'.gt 0≤e.gt 0+1:=by
 have al:∀ {e':EnvP},Al c e e'→e'.gt 0≤e.gt 0+1:=fun h =>by
  rcases h.nx with k | k
  ·rw [k,agv (by omega)]; omega
  ·omega
 cases h with
 | same _ h =>rw [h.nx]; omega
 | drop _ h =>rw [h.nx]; omega
 | al h =>exact al h
 | al1 _ h =>exact al h.a
 | w0 _ _ h =>rw [h.nx]; omega
 | an _ _ h =>rw [h.nx]; omega
theorem Tr.evs {p q:asG} (h:Tr c e e' p q):∃ l,e'.evs=e.evs++l:=by
 cases h with
 | same _ h =>exact h.evs
 | drop _ h =>exact h.evs
 | al h =>obtain ⟨l,hl,_⟩:=h.ev; exact ⟨l,hl⟩
 | al1 _ h =>obtain ⟨l,hl,_⟩:=h.a.ev; exact ⟨l,hl⟩
 | w0 _ _ h =>exact ⟨[],by rw [h.ev]; simp⟩
 | an _ _ h =>obtain ⟨l,k,w,o,_,_,hl⟩:=h.ev; exact ⟨_,by rw [hl,List.append_assoc]⟩
structure DL (c:Cfg) (N:Nat) (e:EnvP) (vs:Nat→Vw):Prop where
 ei:EI c (1+3*N) e
 m:MI c e
 n:(e.m.cells.length:Int)=aaX c
 nx:e.gt 0≤N
 li:LI c e vs
def WL (c:Cfg) (N:Nat) (j:Int) (w:WorkerV MV) (v:Vw):Prop:=∃ k,w=ah0 (aau c) j k∧ahZ (1+3*N) (mnC c) k∧aup c k∧av8 k∧vwW k=v
def CL (c:Cfg) (l:ClientV MV) (v:Vw):Prop:=∃ k,l=arw c.subs c.workers k∧aCX c k∧vwC k=v
theorem WL.next {j:Int} (hw:WL c N j w v):WL c (N+1) j w v:=by
 obtain ⟨k,h1,h2,h3⟩:=hw
 exact ⟨k,h1,h2.up (by omega),h3⟩
theorem DL.next (h:DL c N e vs):DL c (N+1) e vs:=⟨h.ei.up (by omega),h.m,h.n,by have:=h.nx; omega,h.li⟩
theorem DL.clk {k:ClkV} (h:DL c N e vs):DL c N { e with k:=k } vs:=by
 obtain ⟨rl,ts,la⟩:=h.li
 exact ⟨h.ei.clk,h.m.ex,h.n,h.nx,rl,ts,la⟩
theorem DL.stp (h:DL c N e vs) (hN:N≤100000) (s:Stp 2 e e') {p q:asG} (t:Tr c e e' p q) {m:Nat} {v':Vw} (x:Lw c e e' (vs m) v'):DL c (N+1) e' (afJ vs m v'):=by
 have s1:=h.ei.stp (by omega) s
 have en:1+3*N+3=1+3*(N+1):=by omega
 rw [en] at s1
 have h0:=h.m.p 0
 have h1:=h.nx
 have h2:=t.nx ⟨h0,by omega⟩
 exact ⟨s1,t.i,by rw [(aFL s.m h.ei.ct (by omega)).2]; exact h.n,by omega,x m vs rfl h.li⟩
theorem aGd (h:DL c N e vs) (hN:N≤100000) {j:Nat} (hw:WL c N j w (vs j)) :
  aan (aag w e) fun o =>∃ v',DL c (N+1) o.2.2.1 (afJ vs j v')∧WL c (N+1) j o.2.1 v'∧∃ l,o.2.2.1.evs=e.evs++l:=by
 obtain ⟨k,rfl,hk,hg,hh,hv⟩:=hw
 rw [← h.ei.many] at hk
 have h0:=h.m.p 0
 have hx:=h.nx
 have h1:=axJ (w:=(j:Int)) h.ei.ok (by omega) k hk
 have h2:=az5 (w:=(j:Int)) h.ei.ok k
 have h3:=az4 (w:=(j:Int)) h.ei.ok k hk (by omega)
 have h4:=az3 (w:=(j:Int)) h.m h.n hg
 have h5:=aFo (w:=(j:Int)) h.m h.n ⟨h0,by omega⟩ h.li.rl hg hh
 rw [h.ei.many] at h3
 rw [h.ei.l] at h1
 rw [hv] at h5
 exact ⟨_,h1,_,h.stp hN h2 h4.1 h5.1,⟨_,rfl,h3.up (by omega),h4.2,h5.2,rfl⟩,h4.1.evs⟩
theorem aIu (h:DL c N e vs) (hN:N≤100000) {m:Nat} (hc:CL c l (vs m)):aan (aaq l e) fun o =>∃ v',DL c (N+1) o.2.2.1 (afJ vs m v')∧CL c o.2.1 v'∧∃ l,o.2.2.1.evs=e.evs++l:=by
 obtain ⟨k,rfl,hk,hv⟩:=hc
 have h0:=h.m.p 0
 have hx:=h.nx
 have h1:=ay6 (subs:=c.subs) (me:=c.workers) h.ei.ok (by omega) k hk.1
 have h2:=aCj (subs:=c.subs) (me:=c.workers) h.ei.ok k
 have h4:=aCi (me:=c.workers) h.m h.n hk
 have h5:=aF5 (me:=c.workers) h.m h.n ⟨h0,by omega⟩ h.li.rl hk
 rw [hv] at h5
 exact ⟨_,h1,_,h.stp hN h2 h4.1 h5,⟨_,rfl,h4.2,rfl⟩,h4.1.evs⟩
theorem aIW {j:Int}:WL c 0 j (ah0 (aau c) j ⟨0,0,0,0,.top⟩) ([],.n):=⟨_,rfl,trivial,trivial,trivial,rfl⟩
theorem aKR:CL c (arw c.subs c.workers ⟨0,0,false,.n1⟩) ([],.n):=⟨_,rfl,⟨Int.le_refl 0,trivial⟩,rfl⟩
theorem aCt (h:DecOk c):((aor c).m.cells.length:Int)=aaX c:=by
 show ((List.replicate (aaX c).toNat (0:Int)).length:Int)=_
 have:=ah5 h
 have h4:=h.h
 have h5:=h.t
 rw [List.length_replicate]
 have:0≤aaX c:=by unfold aaX; omega
 omega
theorem aKL (h:DecOk c):DL c 0 (aor c) fun _ =>([],.n):=by
 have ht:=h.t
 refine ⟨aKF h,aJ6 h,aCt h,by rw [avE]; exact Int.le_refl 0,?_,fun _ =>.fresh,?_⟩
 ·show ((List.replicate c.tasks.toNat _).length:Int)=_
  rw [List.length_replicate]; omega
 ·have e1:akb c (aor c) (fun _ =>.fresh) (fun _ =>([],.n))=⟨c.tasks,0,fun _ =>0,fun _ =>0,rcw (aor c),rcs (aor c),fun _ =>0,fun _ =>0,fun _ =>0,fun _ =>.fresh,fun _ =>[],fun _ =>.n⟩:=by
   unfold akb
   rw [avE,show Stt c (aor c)=fun _ =>0 from funext fun t =>avE,show Jo c (aor c)=fun _ =>0 from funext fun t =>avE]
   rfl
  rw [e1]
  refine aKg fun t h0 h1 =>?_
  show (if 0≤t then ((aor c).rc t).started else false)=false
  rw [if_pos h0]
  have:(aor c).rc t=azV:=List.eq_of_mem_replicate (auf (α:=RecP) (d:=(dfR 26:TR 26)) ⟨h0,by show t<((List.replicate c.tasks.toNat azV).length:Int); rw [List.length_replicate]; omega⟩)
  rw [this]; rfl
def JL (c:Cfg) (N:Nat) (e:EnvP) (ws:List (WorkerV MV)) (cl:ClientV MV):Prop :=
 ∃ vs,DL c N e vs∧(∀ (j:Nat) w,ws[j]?=some w→WL c N j w (vs j))∧CL c cl (vs ws.length)
structure EngI (c:Cfg) (I:Nat→EnvP→List (WorkerV MV)→ClientV MV→Prop):Prop where
 w:∀ {N:Nat} {e:EnvP} {ws:List (WorkerV MV)} {cl:ClientV MV} {j:Nat} {w:WorkerV MV},I N e ws cl→N≤100000→ws[j]?=some w→aan (aag w e) fun o =>I (N+1) o.2.2.1 (ws.set j o.2.1) cl∧∃ l,o.2.2.1.evs=e.evs++l
 c:∀ {N:Nat} {e:EnvP} {ws:List (WorkerV MV)} {cl:ClientV MV},I N e ws cl→N≤100000→aan (aaq cl e) fun o =>I (N+1) o.2.2.1 ws o.2.1∧∃ l,o.2.2.1.evs=e.evs++l
 n:∀ {N:Nat} {e:EnvP} {ws:List (WorkerV MV)} {cl:ClientV MV},I N e ws cl→I (N+1) e ws cl
 k:∀ {N:Nat} {e:EnvP} {ws:List (WorkerV MV)} {cl:ClientV MV} {k:ClkV},I N e ws cl→I N { e with k:=k } ws cl
 ev:∀ {N:Nat} {e:EnvP} {ws:List (WorkerV MV)} {cl:ClientV MV},I N e ws cl→e.evs.length≤1+3*N
theorem aso {α:Type} {ws:List α} {j:Nat} {w:α} (h:ws[j]?=some w):j<ws.length:=by
 rcases Nat.lt_or_ge j ws.length with k | k
 ·exact k
 ·rw [List.getElem?_eq_none k] at h; cases h
theorem ayF:EngI c (JL c) where
 w {N e ws cl j w} h hN hj:=by
  obtain ⟨vs,h1,h2,h3⟩:=h
  have hl:=aso hj
  refine (aGd h1 hN (h2 j w hj)).mono fun o ⟨v',g1,g2,g3⟩ =>⟨⟨_,g1,fun i u hu =>?_,?_⟩,g3⟩
  ·by_cases hij:i=j
   ·subst hij
    rw [List.getElem?_set_self hl] at hu
    rw [abL,← Option.some.inj hu]
    exact g2
   ·rw [List.getElem?_set_ne (fun k =>hij k.symm)] at hu
    rw [acO hij]
    exact (h2 i u hu).next
  ·rw [List.length_set,acO (by omega)]; exact h3
 c {N e ws cl} h hN:=by
  obtain ⟨vs,h1,h2,h3⟩:=h
  refine (aIu h1 hN h3).mono fun o ⟨v',g1,g2,g3⟩ =>⟨⟨_,g1,fun i u hu =>?_,by rw [abL]; exact g2⟩,g3⟩
  have:=aso hu
  rw [acO (by omega)]; exact (h2 i u hu).next
 n {N e ws cl} h:=by
  obtain ⟨vs,h1,h2,h3⟩:=h
  exact ⟨vs,h1.next,fun i u hu =>(h2 i u hu).next,h3⟩
 k {N e ws cl k} h:=by
  obtain ⟨vs,h1,h2,h3⟩:=h
  exact ⟨vs,h1.clk,h2,h3⟩
 ev {N e ws cl} h:=by
  obtain ⟨vs,h1,h2,h3⟩:=h
  exact h1.ei.ok.ev
theorem ayE (h:DecOk c) {ws:List (WorkerV MV)} (hw:∀ (j:Nat) w,ws[j]?=some w→w=ah0 (aau c) j ⟨0,0,0,0,.top⟩):JL c 0 (aor c) ws (arw c.subs c.workers ⟨0,0,false,.n1⟩) :=
 ⟨_,aKL h,fun j w hj =>by rw [hw j w hj]; exact aIW,aKR⟩
end
def Hd (v:Vw) (t:Int):Prop:=t∈v.1∨match v.2 with
 | .j x _ =>x=t
 | .b x _ =>x=t
 | .r x =>x=t
 | .f x =>x=t
 | _ =>False
section
variable {c:Cfg} {e e':EnvP} {vs:Nat→Vw} {pub:Nat→asG} {m m':Nat} {t u v:Int}
theorem aHY {a:Ab} (la:LA a) {m:Nat} (h:Hd (a.hd m,a.ph m) t):a.ok t∧(a.ts t=.run m∨a.ts t=.bm m∨a.ts t=.fin m):=by
 have hp:=la.ph m
 rcases h with h | h
 ·have:=la.hd m t h
  exact ⟨this.1,.inl this.2⟩
 ·revert h hp
  show (a.phOk m (a.hd m) (a.ph m))→(match a.ph m with | .j x _ =>x=t | .b x _ =>x=t | .r x =>x=t | .f x =>x=t | _ =>False)→_
  cases a.ph m with
  | j x u =>rintro ⟨h1,_⟩ rfl; have:=la.hd m x h1; exact ⟨this.1,.inl this.2⟩
  | b x u =>rintro ⟨h1,h2,_⟩ rfl; exact ⟨h1,.inr (.inl h2)⟩
  | r x =>rintro ⟨h1,h2⟩ rfl; exact ⟨h1,.inr (.inl h2)⟩
  | f x =>rintro ⟨h1,h2⟩ rfl; exact ⟨h1,.inr (.inr h2)⟩
  | _ =>exact fun _ k =>k.elim
theorem aKe (h:LI c e vs) (h1:Hd (vs m) t) (h2:Hd (vs m') t):m=m':=by
 obtain ⟨rl,ts,la⟩:=h
 obtain ⟨_,k1⟩:=aHY la (m:=m) h1
 obtain ⟨_,k2⟩:=aHY la (m:=m') h2
 have g1:((akb c e ts vs).ts t).mine=some m:=by rcases k1 with k | k | k<;>rw [k]<;>rfl
 have g2:((akb c e ts vs).ts t).mine=some m':=by rcases k2 with k | k | k<;>rw [k]<;>rfl
 exact Option.some.inj (g1.symm.trans g2)
end
end
end Go.Proofs.YtidhehdanppcoaaGreat
