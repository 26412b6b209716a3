/- The keys of the injector: what their low bits are. Raises; the machines that run others inside,up to Drain. Run,a worker,the client: what a step does with levels,Next and the events; who publishes a task. A worker and the client: what a step does with levels,Next and the events. Who has a task,and what its cells say: what holds between steps,and how a step keeps it. No program occurs here. What a step leaves of the tasks' states: the machines that change none. Who has a task,in the program's memory: single changes of the cells,the records and the events. -/
import Derived.Test.YtidhehdanppcoaaGreatCaan
set_option linter.all false
namespace Go.Proofs.YtidhehdanppcoaaGreat
section
open Go Go.RowKit
set_option maxRecDepth 100000
variable [Tb]
theorem ahS (a:Int):(BitVec.ofInt 64 a).toNat=(a % 18446744073709551616).toNat:=by
 rw [BitVec.toNat_ofInt]; rfl
theorem ak5 {n:Nat} (h:n<18446744073709551616):IntKind.u64.wrap (n:Int)=(n:Int):=by
 rw [ayh]; omega
theorem avj (a b:Int):orU a b=(((a % 18446744073709551616).toNat ||| (b % 18446744073709551616).toNat:Nat):Int):=by
 show IntKind.u64.wrap ((BitVec.ofInt 64 a ||| BitVec.ofInt 64 b).toNat:Int)=_
 rw [BitVec.toNat_or,ahS,ahS,ak5]
 exact Nat.or_lt_two_pow (n:=64) (by omega) (by omega)
theorem asH (a:Int):ani a 65535=(((a % 18446744073709551616).toNat % 65536:Nat):Int):=by
 show IntKind.u64.wrap ((BitVec.ofInt 64 a &&& BitVec.ofInt 64 65535).toNat:Int)=_
 have e:((65535:Int) % 18446744073709551616).toNat=2 ^ 16-1:=by decide
 rw [BitVec.toNat_and,ahS,ahS,e,Nat.and_two_pow_sub_one_eq_mod,ak5 (by omega)]
theorem azq (a b:Int):(orU a b).toNat % 65536=((a % 18446744073709551616).toNat % 65536) ||| ((b % 18446744073709551616).toNat % 65536):=by
 rw [avj,Int.toNat_natCast]
 exact Nat.or_mod_two_pow (n:=16)
theorem azp (a b:Int):orU a b % 18446744073709551616=orU a b:=by
 have h:(a % 18446744073709551616).toNat ||| (b % 18446744073709551616).toNat<2 ^ 64:=Nat.or_lt_two_pow (by omega) (by omega)
 rw [avj]
 omega
theorem aB8 {d a t:Int} (ht:0≤t∧t≤65535):ani (apg d a t).1 65535=t∨(apg d a t).1=0:=by
 unfold apg
 by_cases h1:d<0
 ·rw [if_pos h1]; exact .inr rfl
 rw [if_neg h1]
 by_cases h2:16777215<d
 ·rw [if_pos h2]; exact .inr rfl
 rw [if_neg h2]
 by_cases h3:a<0
 ·rw [if_pos h3]; exact .inr rfl
 rw [if_neg h3]
 by_cases h4:16777215<a
 ·rw [if_pos h4]; exact .inr rfl
 rw [if_neg h4,if_neg (by omega),if_neg (by omega)]
 refine .inl ?_
 simp only
 rw [asH,azp,azq,azp,azq]
 have p40:(2:Int) ^ min (40:Int).toNat IntKind.u64.bits=1099511627776:=by decide
 have p16:(2:Int) ^ min (16:Int).toNat IntKind.u64.bits=65536:=by decide
 rw [p40,p16,aft (x:=d) (by omega),aft (x:=a) (by omega),aft (x:=t) (by omega)]
 have e1:((wu (d*1099511627776)) % 18446744073709551616).toNat % 65536=0:=by
  have:wu (d*1099511627776)=d*1099511627776 % 18446744073709551616:=ayh _
  rw [this]; omega
 have e2:((wu (a*65536)) % 18446744073709551616).toNat % 65536=0:=by
  have:wu (a*65536)=a*65536 % 18446744073709551616:=ayh _
  rw [this]; omega
 rw [e1,e2]
 simp
 omega
theorem aFk {c:Cfg} (hd:DecOk c) {d a t:Int} (ht:TOk c t):adO c (apg d a t).1:=by
 have h:=hd.t
 have h2:0≤(apg d a t).1:=by
  unfold apg
  repeat' split
  all_goals first | exact Int.le_refl 0 | exact awO _ _
 refine ⟨h2,?_⟩
 rcases aB8 (d:=d) (a:=a) (t:=t) (by unfold TOk at ht; omega) with e | e
 ·rw [e]; exact ht.2
 ·rw [e,asH]; simp; omega
theorem ar0 {c:Cfg} (hd:DecOk c) {k:Int} (hk:adO c k):TOk c (atX k):=by
 have h:=hd.t
 have e:atX k=ani k 65535:=by
  show wi (ani k 65535)=_
  have h1:=anh k 65535
  have h2:=hk.2
  exact aaM (aas (by omega))
 unfold TOk
 rw [e]
 exact ⟨anh _ _,hk.2⟩
theorem arZ {c:Cfg} (hd:DecOk c):adO c 0:=by
 have h:=hd.t
 refine ⟨Int.le_refl 0,?_⟩
 rw [asH]; simp; omega
section
variable {c:Cfg} {e:EnvP} {w x:Int}
theorem awz {n i k x:Int} (h1:adO c k) (h2:adO c x):aoF c (atv n i k x):=by
 unfold atv
 split
 ·exact ⟨h1,h2⟩
 ·exact ⟨h1,h2⟩
theorem aw4 {d t:Int} (h:MI c e) (ht:TOk c t) (s:InsertS) (hs:aoF c s):Qt c e (abS d t e s).2∧(abS d t e s).1.Q (aoF c) (fun _ _ =>True):=by
 cases s with
 | l1 =>exact ⟨.lk h,.ite (fun _ =>trivial) fun _ =>trivial⟩
 | l2 n =>exact ⟨.fr h (apQ h.d (by omega)) (ahh _),.ite (fun _ =>awz (aFk h.d ht) (arZ h.d)) fun _ =>trivial⟩
 | l3 n i k x =>
  unfold abS
  rw [h.l]
  exact ⟨.lk h,.ite (fun _ =>⟨hs.1,aip h _⟩) fun _ =>⟨hs.1,aip h _⟩⟩
 | l4 n i k x =>
  unfold abS
  rw [h.l]
  exact ⟨.slot h hs.2,awz hs.1 hs.2⟩
 | l5 n i k x =>
  unfold abS
  rw [h.l]
  exact ⟨.slot h hs.1,hs⟩
 | l6 n i k x =>exact ⟨.fr h (apQ h.d (by omega)) (ahh _),trivial⟩
theorem axs {n i d x y z:Int} (h1:adO c x) (h2:adO c y) (h3:adO c z):amo c (aug n i d x y z):=by
 unfold aug
 split
 ·exact ⟨h1,h2,h3⟩
 ·exact ⟨h1,h2,h3⟩
theorem avE {n i d x y z:Int} (h1:adO c x) (h2:adO c y) (h3:adO c z):amo c (ax2 n i d x y z):=by
 unfold ax2
 split
 ·exact ⟨h1,h2,h3⟩
 ·exact ⟨h1,h2,h3⟩
theorem aBY (h:MI c e) (s:RemoveS) (hs:amo c s):Qt c e (acl w e s).2∧(acl w e s).1.Q (amo c) (fun r x =>r≠2→TOk c x):=by
 cases s with
 | l1 =>exact ⟨.lk h,.ite (fun _ =>fun h =>absurd rfl h) fun _ =>trivial⟩
 | l2 n =>
  unfold acl
  rw [h.l]
  exact ⟨.lk h,aip h _⟩
 | l3 n x =>
  unfold acl
  rw [h.l]
  exact ⟨.lk h,hs,aip h _⟩
 | l4 n x y =>exact ⟨(Qt.fr h (apQ h.d (by omega)) (ahh _)).em (ar0 h.d hs.1) (by omega),.ite (fun _ =>fun _ =>ar0 h.d hs.1) fun _ =>axs hs.1 hs.2 (arZ h.d)⟩
 | l5 n i d x y z =>
  unfold acl
  rw [h.l]
  exact ⟨.lk h,.ite (fun _ =>⟨hs.1,hs.2.1,aip h _⟩) fun _ =>avE hs.1 hs.2.1 (aip h _)⟩
 | l6 n i d x y z =>
  unfold acl
  rw [h.l]
  exact ⟨.lk h,.ite (fun _ =>avE hs.1 hs.2.1 (aip h _)) fun _ =>avE hs.1 hs.2.1 hs.2.2⟩
 | l7 n i d x y z =>
  unfold acl
  rw [h.l]
  exact ⟨.slot h hs.2.2,axs hs.1 hs.2.1 hs.2.2⟩
 | l8 n i d x y z =>
  unfold acl
  rw [h.l]
  exact ⟨.slot h hs.2.1,fun _ =>ar0 h.d hs.1⟩
end
structure Rsd (c:Cfg) (e e':EnvP) (t v:Int):Prop where
 i:MI c e'
 tk:TOk c t
 vk:0≤v∧v<c.levels
 up:Lv c e t<v
 now:Lv c e' t=v
 ot:∀ u,u≠t→Lv c e' u=Lv c e u
 nx:e'.gt 0=e.gt 0
 ev:∃ k w o l,(k=11∨k=12)∧e'.evs=e.evs++(⟨k,w,t,o,v⟩::l)∧∀ x∈l,Pl c x
def Rz (c:Cfg) (e e':EnvP):Prop:=Qt c e e'∨∃ t v,Rsd c e e' t v
section
variable {c:Cfg} {e e':EnvP} {w v x:Int}
theorem Rsd.em {t v k w u o l:Int} (h:Rsd c e e' t v) (ht:0≤u∧u<c.tasks) (hk:k≠1∧k≠3∧k≠11∧k≠12):Rsd c e (e'.em k w u o l) t v:=by
 obtain ⟨k1,w1,o1,m,h1,hm,hp⟩:=h.ev
 refine ⟨⟨h.i.d,h.i.l,h.i.cc,h.i.ok⟩,h.tk,h.vk,h.up,h.now,h.ot,h.nx,k1,w1,o1,m++[⟨k,w,u,o,l⟩],h1,?_,fun x hx =>?_⟩
 ·show e'.evs++[_]=_
  rw [hm,List.append_assoc,List.cons_append]
 ·rcases List.mem_append.1 hx with hx | hx
  ·exact hp x hx
  ·rw [List.mem_singleton.1 hx]
   exact ⟨ht,hk⟩
theorem Rz.em {k w u o l:Int} (h:Rz c e e') (ht:0≤u∧u<c.tasks) (hk:k≠1∧k≠3∧k≠11∧k≠12):Rz c e (e'.em k w u o l):=by
 rcases h with h | ⟨t,v,h⟩
 ·exact .inl (h.em ht hk)
 ·exact .inr ⟨t,v,h.em ht hk⟩
theorem Rz.i (h:Rz c e e'):MI c e':=by
 rcases h with h | ⟨t,v,h⟩
 ·exact h.i
 ·exact h.i
theorem Qt.same (h:MI c e) (h1:∀ b,e'.gt b=e.gt b) (h2:e'.l=e.l) (h3:e'.c=e.c) (h4:e'.evs=e.evs):Qt c e e' :=
 ⟨⟨h.d,by rw [h2]; exact h.l,by rw [h3]; exact h.cc,fun a =>by rw [h1]; exact h.ok a⟩,fun t =>h1 _,h1 _,[],by rw [h4]; simp,fun x hx =>by cases hx⟩
theorem anJ {a o v b:Int}:(e.cas a o v).gt b=if e.hit a o=true∧b=a then v else e.gt b:=by
 have h:(e.cas a o v).gt b=(e.pt 3 a (if e.m.gt a=o then v else e.m.gt a)).gt b:=rfl
 rw [h,aho]
 by_cases hr:0≤a∧a<(e.m.cells.length:Int)
 ·have hg:e.m.gt a=ags e.m.cells a:=by unfold MemV.gt; rw [if_pos hr]
  by_cases hh:ags e.m.cells a=o
  ·have h1:e.hit a o=true:=by show decide _=true; rw [decide_eq_true ⟨hr,hh⟩]
   by_cases hb:b=a
   ·rw [if_pos (show b=a∧0≤a∧a<(e.m.cells.length:Int) from ⟨hb,hr⟩),if_pos (show e.hit a o=true∧b=a from ⟨h1,hb⟩),hg,if_pos hh]
   ·rw [if_neg (show ¬ (b=a∧0≤a∧a<(e.m.cells.length:Int)) from fun h =>hb h.1),if_neg (show ¬ (e.hit a o=true∧b=a) from fun h =>hb h.2)]
  ·have h1:¬ e.hit a o=true:=by
    show ¬ decide _=true
    rw [decide_eq_true_iff]
    exact fun h =>hh h.2
   rw [if_neg (show ¬ (e.hit a o=true∧b=a) from fun h =>h1 h.1)]
   by_cases hb:b=a
   ·rw [if_pos (show b=a∧0≤a∧a<(e.m.cells.length:Int) from ⟨hb,hr⟩),hg,if_neg hh,hb]; exact hg.symm
   ·rw [if_neg (show ¬ (b=a∧0≤a∧a<(e.m.cells.length:Int)) from fun h =>hb h.1)]
 ·have h1:¬ e.hit a o=true:=by
   show ¬ decide _=true
   rw [decide_eq_true_iff]
   exact fun h =>hr h.1
  rw [if_neg (show ¬ (e.hit a o=true∧b=a) from fun h =>h1 h.1),if_neg (show ¬ (b=a∧0≤a∧a<(e.m.cells.length:Int)) from fun h =>hr h.2)]
theorem Qt.miss {a o v:Int} (h:MI c e) (hm:¬ e.hit a o=true):Qt c e (e.cas a o v):=.same h (fun b =>by rw [anJ,if_neg (fun h =>hm h.1)]) rfl rfl rfl
theorem atZ {a o:Int} (h:e.hit a o=true):e.gt a=o∧0≤a:=by
 have h:decide ((0≤a∧a<(e.m.cells.length:Int))∧ags e.m.cells a=o)=true:=h
 have h:=of_decide_eq_true h
 refine ⟨?_,h.1.1⟩
 show e.m.gt a=o
 unfold MemV.gt
 rw [if_pos h.1]; exact h.2
theorem atV (hd:DecOk c) {t u:Int} (ht:TOk c t) (h:abx (aav c) u=abx (aav c) t):u=t:=by
 have e1:=adH hd (t:=t) (f:=1) (by omega)
 have e2:=adH hd (t:=u) (f:=1) (by omega)
 have e3:=ag0 hd
 have h4:=hd.h
 have h:acU (aav c) u 1=acU (aav c) t 1:=h
 have ht:0≤t∧t<c.tasks:=ht
 rw [e1,e2,if_pos ht] at h
 by_cases hu:0≤u∧u<c.tasks
 ·rw [if_pos hu] at h; omega
 ·rw [if_neg hu] at h; omega
theorem awY (hd:DecOk c) {t v:Int} (hv:0≤v∧v<c.levels):CellOk c (abx (aav c) t) v:=by
 have e:=afM hd (t:=t)
 exact ⟨hv.1,fun k =>by omega,fun k =>by omega,fun k =>hv.2⟩
theorem ayO (h:MI c e) {t q v k w o:Int} (ht:TOk c t) (hv:0≤v∧v<c.levels) (hq:q<v) (hh:e.hit (abx (aav c) t) q=true) (hk:k=11∨k=12):Rsd c e ((e.cas (abx (aav c) t) q v).em k w t o v) t v:=by
 have hg:=atZ hh
 refine ⟨⟨h.d,h.l,h.cc,fun b =>?_⟩,ht,hv,by show e.gt _<v; omega,?_,fun u hu =>?_,?_,k,w,o,[],hk,rfl,fun x hx =>by cases hx⟩
 ·show CellOk c b ((e.cas _ q v).gt b)
  rw [anJ]
  split
  ·rename_i q; rw [q.2]; exact awY h.d hv
  ·exact h.ok b
 ·show (e.cas _ q v).gt _=v
  rw [anJ,if_pos ⟨hh,rfl⟩]
 ·show (e.cas _ q v).gt _=e.gt _
  rw [anJ,if_neg (fun h' =>hu (atV h.d ht h'.2))]
 ·show (e.cas _ q v).gt 0=e.gt 0
  rw [anJ,if_neg]
  intro h'
  have h1:=afM h.d (t:=t)
  rw [← h'.2,aeW] at h1
  omega
def asP (v:Int):RaiseS→Prop
 | .l1 _ =>True
 | .l2 q =>q<v
theorem aFd {t:Int} (h:MI c e) (s:RaiseS) (hs:asP v s):Rz c e (aea w t v e s).2∧(aea w t v e s).1.Q (asP v) (fun _ _ =>True):=by
 unfold aea
 rw [h.l]
 split
 ·exact ⟨.inl (.refl h),trivial⟩
 rename_i hf
 have hf:asR e t v:=Classical.not_not.1 hf
 unfold asR at hf
 rw [h.cc] at hf
 have hl:=h.d.l
 cases s with
 | l1 q =>
  refine ⟨.inl (.lk h),?_⟩
  have hg:=aw5 h t
  have e1:wi (Lv c e t)=Lv c e t:=aaM (aas (by omega))
  show Rs.Q _ _ (if v≤wi (Lv c e t) then _ else _)
  rw [e1]
  exact .ite (fun _ =>trivial) fun hn =>by show Lv c e t<v; omega
 | l2 q =>
  have e2:wu v=v:=aft (by omega)
  simp only
  split
  ·rename_i hh
   rw [e2]
   exact ⟨.inr ⟨t,v,ayO h hf.1 hf.2 hs hh (.inl rfl)⟩,trivial⟩
  ·rename_i hh
   exact ⟨.inl (.miss h hh),trivial⟩
def aiI:LPushS→Prop
 | .push s =>ano s
 | _ =>True
theorem apz (h:MI c e) (hx:TOk c x) (s:LPushS) (hs:aiI s):Qt c e (abw w v x e s).2∧(abw w v x e s).1.Q aiI (fun _ _ =>True):=by
 have g:∀ s,ano s→Qt c e (match aei (aat e.l w v) x e s with
   | (.go s,e') =>(Rs.go (LPushS.push s),e')
   | (.fin c _,e') =>(if c=3 then .fin 3 0 else .go .set,e')).2∧(match aei (aat e.l w v) x e s with
   | (.go s,e') =>(Rs.go (LPushS.push s),e')
   | (.fin c _,e') =>(if c=3 then .fin 3 0 else .go .set,e')).1.Q aiI (fun _ _ =>True):=fun s hs =>by
  have:=aFu (w:=w) (v:=v) h hx s hs
  rw [h.l]
  revert this
  rcases aei (aat (aav c) w v) x e s with ⟨r,e'⟩
  intro this
  cases r with
  | go s =>exact this
  | fin c0 v0 =>exact ⟨this.1,.ite (fun _ =>trivial) fun _ =>trivial⟩
 cases s with
 | new =>exact g .l1 trivial
 | push s =>exact g _ hs
 | set =>
  refine ⟨?_,trivial⟩
  show Qt c e (aBN (aaF e.l w) v e)
  rw [h.l]
  exact aJL h
def aA8:LPopS→Prop
 | .l2 _ s =>aA7 s
 | _ =>True
theorem aIn (h:MI c e) (s:LPopS) (hs:aA8 s):Qt c e (afF w e s).2∧(afF w e s).1.Q aA8 (fun r x =>r≠2→TOk c x):=by
 cases s with
 | l1 v =>
  unfold afF
  exact ⟨.lk h,.ite (fun _ =>fun h =>absurd rfl h) fun _ =>trivial⟩
 | l2 v s =>
  have:=aHO (w:=w) (v:=v) h s hs
  simp only [afF]
  rw [h.l]
  revert this
  rcases akM (aat (aav c) w v) e s with ⟨r,e'⟩
  intro this
  cases r with
  | go s =>exact this
  | fin c0 v0 =>exact ⟨this.1,.ite (fun hc =>fun _ =>this.2 hc) fun _ =>trivial⟩
 | l3 v s =>
  have:=ayW (w:=w) (v:=v) (a:=w) (b:=v) h s
  simp only [afF]
  rw [h.l]
  revert this
  rcases aeB (aaF (aav c) w) v (aat (aav c) w v) e s with ⟨r,e'⟩
  intro this
  cases r with
  | go s =>exact ⟨this,trivial⟩
  | fin c0 v0 =>exact ⟨this,trivial⟩
def aqf (c:Cfg) (v:Int):WalkS→Prop
 | .l1 _ =>True
 | .raise t s =>TOk c t∧asP v s
 | .l2 t =>TOk c t
 | .push t s =>TOk c t∧aiI s
 | .l4 _ =>True
theorem aG7 (h:MI c e) (s:WalkS) (hs:aqf c v s):Rz c e (ad3 w v e s).2∧(ad3 w v e s).1.Q (aqf c v) (fun _ _ =>True):=by
 have g:∀ t s,TOk c t→asP v s→Rz c e (match aea w t v e s with
   | (.go s,e') =>(Rs.go (WalkS.raise t s),e')
   | (.fin c _,e') =>(.go (if c=1 then .l2 t else .l4 t),e')).2∧(match aea w t v e s with
   | (.go s,e') =>(Rs.go (WalkS.raise t s),e')
   | (.fin c _,e') =>(.go (if c=1 then .l2 t else .l4 t),e')).1.Q (aqf c v) (fun _ _ =>True):=fun t s ht hs =>by
  have:=aFd (w:=w) (t:=t) h s hs
  revert this
  rcases aea w t v e s with ⟨r,e'⟩
  intro this
  cases r with
  | go s =>exact ⟨this.1,ht,this.2⟩
  | fin c0 v0 =>
   refine ⟨this.1,?_⟩
   show aqf c v (if c0=1 then .l2 t else .l4 t)
   split
   ·exact ht
   ·trivial
 cases s with
 | l1 t =>
  simp only [ad3]
  split
  ·exact ⟨.inl (.refl h),trivial⟩
  ·rename_i hf
   have hf:asR e t v:=Classical.not_not.1 hf
   unfold asR at hf
   rw [h.cc] at hf
   exact g t _ hf.1 trivial
 | raise t s =>exact g t s hs.1 hs.2
 | l2 t =>
  refine ⟨.inl (.lk h),?_⟩
  show aqf c v (if e.gt (aaN e.l t)=1 then .push t .new else .l4 t)
  split
  ·exact ⟨hs,trivial⟩
  ·trivial
 | push t s =>
  have:=apz (w:=w) (v:=v) h hs.1 s hs.2
  simp only [ad3]
  revert this
  rcases abw w v t e s with ⟨r,e'⟩
  intro this
  cases r with
  | go s =>exact ⟨.inl this.1,hs.1,this.2⟩
  | fin c0 v0 =>
   refine ⟨.inl ?_,trivial⟩
   show Qt c e (if c0=3 then e'.em 19 w t 0 v else e')
   split
   ·exact this.1.em hs.1 (by omega)
   ·exact this.1
 | l4 t =>
  simp only [ad3]
  exact ⟨.inl (.lk h),.ite (fun _ =>trivial) fun _ =>trivial⟩
def avX:EnterS→Prop
 | .l4 _ s =>aiI s
 | _ =>True
theorem aGn {t:Int} (h:MI c e) (ht:TOk c t) (s:EnterS) (hs:avX s):Qt c e (adg w t e s).2∧(adg w t e s).1.Q avX (fun _ _ =>True):=by
 cases s with
 | l1 =>
  simp only [adg]
  rw [h.l]
  split
  ·exact ⟨.refl h,trivial⟩
  ·exact ⟨.fr h (aos h.d) (ahh _),trivial⟩
 | l2 =>
  simp only [adg]
  rw [h.l]
  exact ⟨.fr h (agm h.d) (by omega),trivial⟩
 | l3 =>exact ⟨.lk h,trivial⟩
 | l4 v s =>
  have:=apz (w:=w) (v:=v) h ht s hs
  simp only [adg]
  revert this
  rcases abw w v t e s with ⟨r,e'⟩
  intro this
  cases r with
  | go s =>exact this
  | fin c0 v0 =>exact ⟨this.1,trivial⟩
def asO (c:Cfg):SweepS→Prop
 | .l4 q =>0≤q∧q+1<c.levels
 | .l6 _ s =>aiI s
 | _ =>True
theorem aEu {t:Int} (h:MI c e) (ht:TOk c t) (s:SweepS) (hs:asO c s):Rz c e (aba w t e s).2∧(aba w t e s).1.Q (asO c) (fun _ _ =>True):=by
 have hl:=h.d.l
 cases s with
 | l1 =>
  simp only [aba]
  split
  ·exact ⟨.inl (.refl h),trivial⟩
  ·exact ⟨.inl (.lk h),.ite (fun _ =>trivial) fun _ =>trivial⟩
 | l2 =>
  simp only [aba]
  exact ⟨.inl (.lk h),.ite (fun _ =>trivial) fun _ =>trivial⟩
 | l3 =>
  simp only [aba]
  rw [h.l,h.cc]
  refine ⟨.inl (.lk h),.ite (fun _ =>trivial) fun hn =>?_⟩
  have hg:=aw5 h t
  have e1:wi (Lv c e t)=Lv c e t:=aaM (aas (by omega))
  have e2:wi (c.levels-1)=c.levels-1:=aaM (aas (by omega))
  have hn:¬ wi (c.levels-1)≤wi (Lv c e t):=hn
  rw [e1,e2] at hn
  show 0≤Lv c e t∧Lv c e t+1<c.levels
  omega
 | l4 q =>
  have hs:0≤q∧q+1<c.levels:=hs
  have e1:wu (q+1)=q+1:=aft (by omega)
  have e2:wi (wi q+1)=q+1:=by rw [aaM (x:=q) (aas (by omega)),aaM (aas (by omega))]
  simp only [aba]
  rw [h.l,e1,e2]
  split
  ·rename_i hh
   exact ⟨.inr ⟨t,q+1,ayO h ht (by omega) (by omega) hh (.inr rfl)⟩,trivial⟩
  ·rename_i hh
   exact ⟨.inl (.miss h hh),trivial⟩
 | l5 q =>
  simp only [aba]
  rw [h.l]
  exact ⟨.inl (.fr h (aos h.d) (ahh _)),trivial⟩
 | l6 q s =>
  have:=apz (w:=w) (v:=wi (wi q+1)) h ht s hs
  simp only [aba]
  revert this
  rcases abw w (wi (wi q+1)) t e s with ⟨r,e'⟩
  intro this
  cases r with
  | go s =>exact ⟨.inl this.1,this.2⟩
  | fin c0 v0 =>
   refine ⟨.inl ?_,trivial⟩
   show Qt c e (if c0=3 then e'.em 19 w t 0 _ else e')
   split
   ·exact this.1.em ht (by omega)
   ·exact this.1
def aA6 (c:Cfg):TakeS→Prop
 | .pop s =>aA8 s
 | .claim t =>TOk c t
theorem aHd (h:MI c e) (s:TakeS) (hs:aA6 c s):Qt c e (ai5 w e s).2∧(ai5 w e s).1.Q (aA6 c) (fun r x =>r=1→TOk c x):=by
 cases s with
 | pop s =>
  have:=aIn (w:=w) h s hs
  simp only [ai5]
  revert this
  rcases afF w e s with ⟨r,e'⟩
  intro this
  cases r with
  | go s =>exact this
  | fin c0 v0 =>exact ⟨this.1,.ite (fun _ =>fun h =>absurd h (by omega)) fun hn =>this.2 hn⟩
 | claim t =>exact ⟨akW h hs,.ite (fun _ =>fun _ =>hs) fun _ =>trivial⟩
def auA (c:Cfg) (d:DrainS):Prop:=(d.direct=true→TOk c d.x)∧match d.c with
 | .l3 s =>amo c s
 | .l4 =>TOk c d.x
 | .l5 s =>TOk c d.x∧aiI s
 | _ =>True
theorem axh {d:DrainS} (h:d.direct=true→TOk c d.x):(al3 d).Q (auA c) (fun r x =>r=1→TOk c x):=by
 unfold al3
 exact .ite (fun k =>fun _ =>h k) fun _ =>.ite (fun _ =>fun h =>absurd h (by omega)) fun _ =>fun h =>absurd h (by omega)
theorem aGq (h:MI c e) (d:DrainS) (hd:auA c d):Qt c e (aa3 w e d).2∧(aa3 w e d).1.Q (auA c) (fun r x =>r=1→TOk c x):=by
 obtain ⟨x,dir,p,last,cnt,k⟩:=d
 obtain ⟨h1,h2⟩:=hd
 cases k with
 | l1 =>
  simp only [aa3]
  exact ⟨.lk h,.ite (fun _ =>fun h =>absurd h (by omega)) fun _ =>⟨h1,trivial⟩⟩
 | l2 =>
  simp only [aa3]
  exact ⟨atT h,.ite (fun _ =>⟨h1,trivial⟩) fun _ =>fun h =>absurd h (by omega)⟩
 | l3 s =>
  have:=aBY (w:=w) h s h2
  simp only [aa3]
  revert this
  rcases acl w e s with ⟨r,e'⟩
  intro this
  cases r with
  | go s =>exact ⟨this.1,h1,this.2⟩
  | fin c0 v0 =>exact ⟨this.1,.ite (fun _ =>⟨h1,trivial⟩) fun hn =>⟨fun _ =>this.2 hn,this.2 hn⟩⟩
 | l4 =>
  simp only [aa3]
  exact ⟨.lk h,h1,h2,trivial⟩
 | l5 s =>
  have:=apz (w:=w) (v:=p) h h2.1 s h2.2
  simp only [aa3]
  revert this
  rcases abw w p x e s with ⟨r,e'⟩
  intro this
  cases r with
  | go s =>exact ⟨this.1,h1,h2.1,this.2⟩
  | fin c0 v0 =>exact ⟨this.1,.ite (fun _ =>⟨fun _ =>h2.1,trivial⟩) fun _ =>.ite (fun _ =>⟨h1,trivial⟩) fun _ =>⟨h1,trivial⟩⟩
 | l6 =>
  simp only [aa3]
  exact ⟨az6 h,.ite (fun _ =>⟨h1,trivial⟩) fun _ =>axh h1⟩
 | l7 s =>
  have:=as1 (w:=w) (v:=last) h s
  simp only [aa3]
  revert this
  rcases adN w last e s with ⟨r,e'⟩
  intro this
  cases r with
  | go s =>exact ⟨this,h1,trivial⟩
  | fin c0 v0 =>exact ⟨this,axh h1⟩
end
structure Al (c:Cfg) (e e':EnvP):Prop where
 i:MI c e'
 lv:∀ t,Lv c e' t=Lv c e t
 nx:e'.gt 0=wu (e.gt 0+1)∨e'.gt 0=e.gt 0
 ev:∃ l,e'.evs=e.evs++l∧∀ x∈l,Pl c x
structure Al1 (c:Cfg) (e e':EnvP):Prop where
 a:Al c e e'
 n:e'.gt 0=wu (e.gt 0+1)
structure W0 (c:Cfg) (e e':EnvP) (t v:Int):Prop where
 i:MI c e'
 now:Lv c e' t=v
 ot:∀ u,u≠t→Lv c e' u=Lv c e u
 nx:e'.gt 0=e.gt 0
 ev:e'.evs=e.evs
structure An (c:Cfg) (e e':EnvP) (t v:Int):Prop where
 i:MI c e'
 lv:∀ t,Lv c e' t=Lv c e t
 nx:e'.gt 0=e.gt 0
 ev:∃ l k w o,(k=1∨k=3)∧(∀ x∈l,Pl c x)∧e'.evs=e.evs++l++[⟨k,w,t,o,v⟩]
abbrev aoE:=Option (Int×Int×Bool)
inductive Tr (c:Cfg) (e e':EnvP):aoE→aoE→Prop
 | same (p:aoE) (h:Rz c e e'):Tr c e e' p p
 | drop (p:aoE) (h:Rz c e e'):Tr c e e' p none
 | al (h:Al c e e'):Tr c e e' none none
 | al1 (v:Int) (h:Al1 c e e') (ht:TOk c (wi (e.gt 0))) (hv:0≤v∧v<c.levels):Tr c e e' none (some (wi (e.gt 0),v,false))
 | w0 (t v:Int) (h:W0 c e e' t v):Tr c e e' (some (t,v,false)) (some (t,v,true))
 | an (t v:Int) (h:An c e e' t v):Tr c e e' (some (t,v,true)) none
section
variable {c:Cfg} {e e':EnvP} {w:Int}
theorem Tr.i {p q:aoE} (h:Tr c e e' p q):MI c e':=by
 cases h with
 | same _ h =>exact h.i
 | drop _ h =>exact h.i
 | al h =>exact h.i
 | al1 _ h =>exact h.a.i
 | w0 _ _ h =>exact h.i
 | an _ _ h =>exact h.i
theorem aDm (h:MI c e):Al c e (abN e)∧(0<(e.m.cells.length:Int)→Al1 c e (abN e)):=by
 have hv:CellOk c 0 (wu (e.gt 0+1)):=⟨ahh _,fun k =>by rw [aeW] at k; omega,fun k =>by rw [aeW] at k; omega,fun k =>by rw [aeW] at k; omega⟩
 have hl:∀ t,Lv c (abN e) t=Lv c e t:=fun t =>by
  show (e.pt 6 0 (wu (e.gt 0+1))).gt _=e.gt _
  rw [aho,if_neg]
  intro h'
  have h1:=afM h.d (t:=t)
  rw [h'.1,aeW] at h1
  omega
 have hn:(abN e).gt 0=if (0:Int)=0∧0≤(0:Int)∧0<(e.m.cells.length:Int) then wu (e.gt 0+1) else e.gt 0:=aho
 have ha:Al c e (abN e):=⟨h.pt hv,hl,by rw [hn]; split; exact .inl rfl; exact .inr rfl,[],by show e.evs=_; simp,fun x hx =>by cases hx⟩
 exact ⟨ha,fun hp =>⟨ha,by rw [hn,if_pos ⟨rfl,Int.le_refl 0,hp⟩]⟩⟩
theorem Al.em {k w o l t:Int} (h:Al c e e') (ht:0≤t∧t<c.tasks) (hk:k≠1∧k≠3∧k≠11∧k≠12):Al c e (e'.em k w t o l):=by
 obtain ⟨m,hm,hp⟩:=h.ev
 refine ⟨⟨h.i.d,h.i.l,h.i.cc,h.i.ok⟩,h.lv,h.nx,m++[⟨k,w,t,o,l⟩],?_,fun x hx =>?_⟩
 ·show e'.evs++[_]=_
  rw [hm,List.append_assoc]
 ·rcases List.mem_append.1 hx with hx | hx
  ·exact hp x hx
  ·rw [List.mem_singleton.1 hx]
   exact ⟨ht,hk⟩
theorem Al.pr {t:Int} {r:RecP} (h:Al c e e'):Al c e (e'.pr t r):=⟨⟨h.i.d,h.i.l,h.i.cc,h.i.ok⟩,h.lv,h.nx,h.ev⟩
theorem Al1.pr {t:Int} {r:RecP} (h:Al1 c e e'):Al1 c e (e'.pr t r):=⟨h.a.pr,h.n⟩
theorem aG8 (h:MI c e) {t v:Int} (ht:TOk c t) (hv:0≤v∧v<c.levels) (hr:abx (aav c) t<(e.m.cells.length:Int)):W0 c e (e.pt 2 (abx (aav c) t) v) t v:=by
 have e1:0≤abx (aav c) t:=by
  have:=afM h.d (t:=t)
  have e2:=adH h.d (t:=t) (f:=1) (by omega)
  have e3:=ag0 h.d
  have e4:=h.d.h
  show 0≤acU (aav c) t 1
  have ht:0≤t∧t<c.tasks:=ht
  rw [e2,if_pos ht]
  omega
 refine ⟨h.pt (awY h.d hv),?_,fun u hu =>?_,?_,rfl⟩
 ·show (e.pt _ _ _).gt _=v
  rw [aho,if_pos ⟨rfl,e1,hr⟩]
 ·show (e.pt _ _ _).gt _=e.gt _
  rw [aho,if_neg (fun h' =>hu (atV h.d ht h'.1))]
 ·rw [aho,if_neg]
  intro h'
  have h1:=afM h.d (t:=t)
  rw [← h'.1,aeW] at h1
  omega
theorem Qt.an {t v k w o:Int} (h:Qt c e e') (hk:k=1∨k=3):An c e (e'.em k w t o v) t v:=by
 obtain ⟨m,hm,hp⟩:=h.ev
 exact ⟨⟨h.i.d,h.i.l,h.i.cc,h.i.ok⟩,h.lv,h.nx,m,k,w,o,hk,hp,by show e'.evs++[_]=_; rw [hm]⟩
def aGK (c:Cfg) (r:RunS):Prop:=match r.c with
 | .s2 _ =>TOk c r.id∧(0≤r.level∧r.level<c.levels)
 | .s3 s =>TOk c r.id∧aiI s
 | .s5 =>TOk c r.id
 | .j5 s =>aqf c r.level s
 | .f4 s =>TOk c r.waiter∧avX s
 | .f6 =>TOk c r.waiter
 | _ =>True
def aFg (r:RunS):aoE:=match r.c with
 | .s2 .l1 =>some (r.id,r.level,false)
 | .s2 _ =>some (r.id,r.level,true)
 | _ =>none
def aDz (c:Cfg) (e:EnvP) (p:aoE) (o:Rs RunS×EnvP):Prop:=Tr c e o.2 p (match o.1 with
 | .go r =>aFg r
 | .fin _ _ =>none)∧o.1.Q (aGK c) (fun _ _ =>True)
theorem aDz.ite {p:aoE} {P:Prop} [Decidable P] {a b:Rs RunS×EnvP} (h1:P→aDz c e p a) (h2:¬ P→aDz c e p b):aDz c e p (if P then a else b):=by
 split
 ·exact h1 ‹_›
 ·exact h2 ‹_›
theorem apE {r:RunS} (h:Rz c e e'):aDz c e none (ag7 r e'):=by
 unfold ag7 aDz
 by_cases h1:r.stack.length=1
 ·rw [if_pos h1]; exact ⟨.same _ h,trivial⟩
 ·rw [if_neg h1]; exact ⟨.same _ h,trivial⟩
theorem aHy (h:MI c e) {x:RecP} {i:Int} (hi:¬ (i<0∨((e.prog x).length:Int)≤i)) (ho:(abX (e.prog x) i).op=1):0≤(abX (e.prog x) i).b∧(abX (e.prog x) i).b<c.levels:=by
 have hm:abX (e.prog x) i∈e.prog x:=asD (α:=Ins) (d:=(dfR 3:TR 3)) (by omega)
 have hp:e.prog x∈c.progs∨e.prog x=[]:=by
  unfold EnvP.prog
  rw [h.cc]
  split
  ·exact .inr rfl
  ·exact .inl (asD (by omega))
 rcases hp with hp | hp
 ·rcases h.d.ps _ hp _ hm with k | k | k
  ·omega
  ·exact k.2.2.2
  ·omega
 ·rw [hp] at hm; cases hm
theorem aHo {t:Int} {r:RunS} (h:MI c e) (hl:(e.m.cells.length:Int)=aaU c) (ht:TOk c t) (hc:r.c=.next):aDz c e none (an4 w e r t (e.rc t) (e.prog (e.rc t))):=by
 have hp:aFg r=none:=by unfold aFg; rw [hc]
 have hg:aGK c r:=by unfold aGK; rw [hc]; trivial
 have hs:∀ {e':EnvP},Rz c e e'→aDz c e none (.go r,e'):=fun h =>⟨by show Tr c e _ none (aFg r); rw [hp]; exact .same _ h,hg⟩
 have h0:0<(e.m.cells.length:Int):=by
  have:=ag0 h.d
  have h4:=h.d.h
  have h5:=h.d.t
  rw [hl]; unfold aaU; omega
 unfold an4
 rw [h.l]
 refine .ite (fun _ =>hs (.inl (Qt.fr h (ar8 h.d) (by omega)).pr)) fun _ =>?_
 refine .ite (fun _ =>⟨.same _ (.inl (.fr h (agm h.d) (by omega))),trivial⟩) fun hi =>?_
 refine .ite (fun _ =>hs (.inl (Qt.refl h).pr)) fun _ =>?_
 refine .ite (fun ho =>?_) fun _ =>?_
 ·refine .ite (fun hn =>?_) fun hn =>?_
  ·have hn:TOk c (wi (e.gt 0)):=by unfold IsT at hn; rw [h.cc] at hn; exact hn
   have hb:=aHy h hi ho
   exact ⟨.al1 _ (((aDm h).2 h0).pr.pr) hn hb,hn,hb⟩
  ·exact ⟨by show Tr c e _ none (aFg r); rw [hp]; exact .al ((aDm h).1.pr.em ht (by omega)),hg⟩
 ·refine .ite (fun _ =>hs (.inl (Qt.refl h).pr)) fun _ =>?_
  exact ⟨.same _ (.inl (Qt.fr h (ar8 h.d) (ahh _)).pr),trivial⟩
theorem aJN {r:RunS} (h:MI c e) (hl:(e.m.cells.length:Int)=aaU c) (hr:aGK c r):aDz c e (aFg r) (auB w e r):=by
 unfold auB
 refine .ite (fun _ =>⟨.drop _ (.inl (.refl h)),trivial⟩) fun ht =>?_
 replace ht:IsT e (aaA r.stack):=Classical.not_not.1 ht
 unfold IsT at ht
 rw [h.cc] at ht
 revert ht
 generalize aaA r.stack=t
 intro ht
 obtain ⟨stack,id,child,level,waiter,k⟩:=r
 cases k with
 | next =>exact aHo h hl ht rfl
 | s2 s =>
  obtain ⟨h1,h2⟩:=hr
  have hl2:=h.d.l
  simp only [adn,aeS]
  have hi:¬ ¬ IsT e id:=by unfold IsT; rw [h.cc]; exact fun h =>h h1
  rw [if_neg hi,h.l]
  cases s with
  | l1 =>
   have h2:0≤level∧level<c.levels:=h2
   have e1:wu level=level:=aft (by omega)
   simp only [e1]
   refine ⟨.w0 _ _ (aG8 h h1 h2 ?_),h1,h2⟩
   have e2:=adH h.d (t:=id) (f:=1) (by omega)
   show acU (aav c) id 1<_
   have h1:0≤id∧id<c.tasks:=h1
   rw [e2,if_pos h1,hl]
   unfold aaU
   omega
  | l2 =>exact ⟨.same _ (.inl (.fr h (aos h.d) (ahh _))),h1,h2⟩
  | l3 =>exact ⟨.an _ _ ((Qt.fr h (agm h.d) (by omega)).an (.inr rfl)),h1,trivial⟩
 | s3 s =>
  have:=apz (w:=w) (v:=level) h hr.1 s hr.2
  simp only [adn]
  revert this
  rcases abw w level id e s with ⟨o,e'⟩
  intro this
  cases o with
  | go s =>exact ⟨.same _ (.inl this.1),hr.1,this.2⟩
  | fin c0 v0 =>
   simp only
   split
   ·exact ⟨.same _ (.inl this.1),hr.1⟩
   ·exact ⟨.same _ (.inl this.1),trivial⟩
 | s4 s =>
  have:=as1 (w:=w) (v:=level) h s
  simp only [adn]
  revert this
  rcases adN w level e s with ⟨o,e'⟩
  intro this
  cases o with
  | go s =>exact ⟨.same _ (.inl this),trivial⟩
  | fin c0 v0 =>exact ⟨.same _ (.inl this),trivial⟩
 | s5 =>
  simp only [adn]
  split
  ·exact ⟨.same _ (.inl (akW h hr)),trivial⟩
  ·exact ⟨.same _ (.inl (akW h hr)),trivial⟩
 | j2 =>
  simp only [adn]
  rw [h.l]
  exact ⟨.same _ (.inl (.fr h (agm h.d) (by omega))),trivial⟩
 | j3 =>
  simp only [adn]
  rw [h.l]
  exact .ite (fun _ =>⟨.same _ (.inl ((Qt.cas h (asa h.d) (ahh _)).em ht (by omega))),trivial⟩) fun _ =>⟨.same _ (.inl (.cas h (asa h.d) (ahh _))),trivial⟩
 | j4 =>exact ⟨.same _ (.inl (.lk h)),trivial⟩
 | j5 s =>
  have:=aG7 (w:=w) (v:=level) h s hr
  simp only [adn]
  revert this
  rcases ad3 w level e s with ⟨o,e'⟩
  intro this
  cases o with
  | go s =>exact ⟨.same _ this.1,this.2⟩
  | fin c0 v0 =>exact apE (this.1.em ht (by omega))
 | j6 =>
  simp only [adn]
  rw [h.l]
  exact ⟨.same _ (.inl (.fr h (agm h.d) (by omega))),trivial⟩
 | j7 =>
  simp only [adn]
  rw [h.l]
  exact ⟨.same _ (.inl ((Qt.fr h (ar8 h.d) (by omega)).pr.em ht (by omega))),trivial⟩
 | f2 =>
  simp only [adn]
  rw [h.l]
  exact .ite (fun _ =>apE (.inl ((Qt.cas h (asa h.d) (by omega)).em ht (by omega)))) fun _ =>⟨.same _ (.inl ((Qt.cas h (asa h.d) (by omega)).em ht (by omega))),trivial⟩
 | f3 =>
  simp only [adn]
  refine .ite (fun hn =>?_) fun _ =>apE (.inl (.lk h))
  unfold IsT at hn
  rw [h.cc] at hn
  exact ⟨.same _ (.inl (.lk h)),hn,trivial⟩
 | f4 s =>
  have:=aGn (w:=w) h hr.1 s hr.2
  simp only [adn]
  revert this
  rcases adg w waiter e s with ⟨o,e'⟩
  intro this
  cases o with
  | go s =>exact ⟨.same _ (.inl this.1),hr.1,this.2⟩
  | fin c0 v0 =>
   simp only
   split
   ·exact ⟨.same _ (.inl this.1),hr.1⟩
   ·exact ⟨.same _ (.inl this.1),trivial⟩
 | f5 v s =>
  have:=as1 (w:=w) (v:=v) h s
  simp only [adn]
  revert this
  rcases adN w v e s with ⟨o,e'⟩
  intro this
  cases o with
  | go s =>exact ⟨.same _ (.inl this),trivial⟩
  | fin c0 v0 =>exact apE (.inl this)
 | f6 =>
  simp only [adn]
  exact .ite (fun _ =>⟨.same _ (.inl (akW h hr)),trivial⟩) fun _ =>apE (.inl (akW h hr))
end
section
variable {c:Cfg} {e e':EnvP} {w:Int}
def asN (c:Cfg) (k:WorkS):Prop:=match k.c with
 | .t1 t s =>TOk c t∧asO c s
 | .t2 s =>aA6 c s
 | .t3 s =>auA c s
 | .t5 s =>avV c s
 | .t6 =>TOk c k.x
 | .t7 s =>aGK c s
 | _ =>True
def aJm (k:WorkS):aoE:=match k.c with
 | .t7 s =>aFg s
 | _ =>none
def asL (c:Cfg) (e:EnvP) (p:aoE) (o:WorkS×EnvP):Prop:=Tr c e o.2 p (aJm o.1)∧asN c o.1
theorem asL.ite {p:aoE} {P:Prop} [Decidable P] {a b:WorkS×EnvP} (h1:P→asL c e p a) (h2:¬ P→asL c e p b):asL c e p (if P then a else b):=by
 split
 ·exact h1 ‹_›
 ·exact h2 ‹_›
theorem asL.ite1 {p:aoE} {P:Prop} [Decidable P] {a b:WorkS} {e':EnvP} (h1:P→asL c e p (a,e')) (h2:¬ P→asL c e p (b,e')):asL c e p (if P then a else b,e'):=by
 split
 ·exact h1 ‹_›
 ·exact h2 ‹_›
theorem aFH {a n:Int} (hn:1≤n∧n≤1000):0≤arS a n∧arS a n<n:=by
 have h1:Int.tmod a n<n ∧ -n<Int.tmod a n:=by
  constructor
  ·exact Int.tmod_lt_of_pos _ (by omega)
  ·have h2:Int.tmod (-a) n<n:=Int.tmod_lt_of_pos _ (by omega)
   rw [Int.neg_tmod] at h2
   omega
 unfold arS
 rw [if_neg (by omega)]
 split
 ·rw [aaM (aas (by omega))]; omega
 ·omega
theorem auJ (h:MI c e) {k:WorkS} (hk:asN c k):asN c { k with c:=abH w e k }∧aJm { k with c:=abH w e k }=aJm k:=by
 obtain ⟨a,b,d,x,g⟩:=k
 have ht:=h.d.t
 cases g with
 | top =>
  unfold abH
  rw [h.cc]
  simp only
  split
  ·exact ⟨trivial,rfl⟩
  ·exact ⟨⟨aFH (by omega),trivial⟩,rfl⟩
 | _ =>exact ⟨hk,rfl⟩
theorem ayi {k:WorkS} (h:MI c e) (hl:(e.m.cells.length:Int)=aaU c) (hk:asN c k):asL c e (aJm k) (abe w e k):=by
 have hB:=auJ (w:=w) h hk
 unfold abe
 revert hB
 generalize abH w e k=kc
 intro ⟨h1,h2⟩
 rw [← h2]
 cases kc with
 | top =>exact ⟨by rw [h2]; exact .same _ (.inl (.refl h)),hk⟩
 | t1 t s =>
  have:=aEu (w:=w) h h1.1 s h1.2
  simp only
  revert this
  rcases aba w t e s with ⟨o,e'⟩
  intro this
  cases o with
  | go s =>exact ⟨.same _ this.1,h1.1,this.2⟩
  | fin c0 v0 =>exact ⟨.same _ this.1,trivial⟩
 | t2 s =>
  have:=aHd (w:=w) h s h1
  simp only
  revert this
  rcases ai5 w e s with ⟨o,e'⟩
  intro this
  cases o with
  | go s =>exact ⟨.same _ (.inl this.1),this.2⟩
  | fin c0 v0 =>exact .ite1 (fun hc =>⟨.same none (.inl this.1),trivial⟩) fun _ =>⟨.same none (.inl this.1),fun h =>(by cases h),trivial⟩
 | t3 s =>
  have:=aGq (w:=w) h s h1
  simp only
  revert this
  rcases aa3 w e s with ⟨o,e'⟩
  intro this
  cases o with
  | go s =>exact ⟨.same _ (.inl this.1),this.2⟩
  | fin c0 v0 =>
   refine .ite1 (fun hc =>⟨.same none (.inl this.1),this.2 hc⟩) fun _ =>.ite1 (fun _ =>⟨.same none (.inl this.1),trivial⟩) fun _ =>?_
   unfold an8
   split
   ·exact ⟨.same none (.inl this.1),trivial⟩
   ·exact ⟨.same none (.inl this.1),trivial⟩
 | t4 s =>
  have:=aFj (w:=w) h s
  simp only
  revert this
  rcases aiL w e s with ⟨o,e'⟩
  intro this
  cases o with
  | go s =>exact ⟨.same _ (.inl this),trivial⟩
  | fin c0 v0 =>exact .ite1 (fun hc =>⟨.same none (.inl this),trivial⟩) fun _ =>⟨.same none (.inl this),trivial⟩
 | t5 s =>
  have:=aEF (w:=k.victim) (v:=k.level) h s h1
  simp only
  rw [h.l]
  revert this
  rcases agD (aat (aav c) k.victim k.level) e s with ⟨o,e'⟩
  intro this
  cases o with
  | go s =>exact ⟨.same _ (.inl this.1),this.2⟩
  | fin c0 v0 =>
   refine .ite (fun hc =>⟨.same none (.inl (this.1.em (this.2 hc) (by omega))),this.2 hc⟩) fun _ =>.ite (fun _ =>⟨.same none (.inl this.1),trivial⟩) fun _ =>⟨.same none (.inl this.1),trivial⟩
 | t6 =>
  have h1:TOk c k.x:=h1
  exact .ite1 (fun _ =>⟨.same none (.inl (akW h h1)),trivial⟩) fun _ =>⟨.same none (.inl (akW h h1)),trivial⟩
 | t7 s =>
  have:=aJN (w:=w) h hl h1
  simp only
  revert this
  rcases auB w e s with ⟨o,e'⟩
  intro this
  cases o with
  | go s =>exact this
  | fin c0 v0 =>exact ⟨this.1,trivial⟩
 | t8 s =>
  have:=aEM (w:=w) h s
  simp only
  revert this
  rcases ac5 w e s with ⟨o,e'⟩
  intro this
  cases o with
  | go s =>exact ⟨.same _ (.inl this),trivial⟩
  | fin c0 v0 =>exact ⟨.same _ (.inl this),trivial⟩
 | t9 s =>
  have:=ayW (w:=k.victim) (v:=k.level) (a:=k.victim) (b:=k.level) h s
  simp only
  rw [h.l]
  revert this
  rcases aeB (aaF (aav c) k.victim) k.level (aat (aav c) k.victim k.level) e s with ⟨o,e'⟩
  intro this
  cases o with
  | go s =>exact ⟨.same _ (.inl this),trivial⟩
  | fin c0 v0 =>exact ⟨.same _ (.inl this),trivial⟩
def aBa (c:Cfg) (k:ClieS):Prop:=0≤k.i∧match k.c with
 | .n4 =>TOk c k.id
 | .n5 =>TOk c k.id
 | .n6 =>TOk c k.id
 | .a6 s =>TOk c k.id∧aoF c s
 | _ =>True
def aKF (subs:List Sub) (k:ClieS):aoE:=match k.c with
 | .n4 =>some (k.id,(abZ subs k.i).level,false)
 | .n5 =>some (k.id,(abZ subs k.i).level,true)
 | .n6 =>some (k.id,(abZ subs k.i).level,true)
 | .a6 _ =>some (k.id,(abZ subs k.i).level,true)
 | _ =>none
def avZ (c:Cfg) (e:EnvP) (p:aoE) (o:Bool×ClieS×EnvP):Prop:=Tr c e o.2.2 p (aKF c.subs o.2.1)∧aBa c o.2.1
theorem avZ.ite {p:aoE} {P:Prop} [Decidable P] {a b:Bool×ClieS×EnvP} (h1:P→avZ c e p a) (h2:¬ P→avZ c e p b):avZ c e p (if P then a else b):=by
 split
 ·exact h1 ‹_›
 ·exact h2 ‹_›
theorem aAv {k:ClieS} {p:aoE} (hi:0≤k.i∧k.i≤1000) (h:Tr c e e' p none):avZ c e p (aAw c.subs k e'):=by
 have e1:wi (k.i+1)=k.i+1:=aaM (aas (by omega))
 exact ⟨h,by show 0≤wi (k.i+1); omega,trivial⟩
theorem aAt {k:ClieS} {me:Int} (h:MI c e) (hl:(e.m.cells.length:Int)=aaU c) (hk:aBa c k):avZ c e (aKF c.subs k) (aiB c.subs me e k):=by
 have hsn:=h.d.sn
 unfold aiB
 refine .ite (fun _ =>⟨.same _ (.inl (.refl h)),hk⟩) fun hi =>?_
 obtain ⟨i,id,acc,g⟩:=k
 obtain ⟨h0,h1⟩:=hk
 have h0:0≤i:=h0
 have hi:i<(c.subs.length:Int):=by have hi:¬ (c.subs.length:Int)≤i:=hi; omega
 have hs:(0≤(abZ c.subs i).level∧(abZ c.subs i).level<c.levels):=(h.d.ss _ (asD (α:=Sub) (d:=(dfR 4:TR 4)) ⟨h0,hi⟩)).2.1
 have hz:=TOk.zero h.d
 show avZ c e _ (aa8 c.subs me e ⟨i,id,acc,g⟩ (abZ c.subs i))
 cases g with
 | n1 =>
  simp only [aa8]
  by_cases hh:e.hit 1 0=true
  ·rw [if_pos hh]; exact ⟨.same none (.inl (atT h)),h0,trivial⟩
  ·rw [if_neg hh]; exact ⟨.same none (.inl (atT h)),h0,trivial⟩
 | a1 =>
  simp only [aa8]
  by_cases hh:e.hit 1 0=true
  ·rw [if_pos hh]; exact ⟨.same none (.inl (atT h)),h0,trivial⟩
  ·rw [if_neg hh]; exact ⟨.same none (.inl (atT h)),h0,trivial⟩
 | n2 =>
  simp only [aa8]
  exact .ite (fun _ =>⟨.same none (.inl ((Qt.lk h).em hz (by omega))),h0,trivial⟩) fun _ =>⟨.same none (.inl (.lk h)),h0,trivial⟩
 | n3 =>
  simp only [aa8]
  refine .ite (fun hn =>?_) fun _ =>⟨.al ((aDm h).1.em hz (by omega)),h0,trivial⟩
  have hn:TOk c (wi (e.gt 0)):=by unfold IsT at hn; rw [h.cc] at hn; exact hn
  have hp:0<(e.m.cells.length:Int):=by
   have:=ag0 h.d
   have h4:=h.d.h
   have h5:=h.d.t
   rw [hl]; unfold aaU; omega
  exact ⟨.al1 _ ((aDm h).2 hp).pr hn hs,h0,hn⟩
 | n4 =>
  have h1:TOk c id:=h1
  have hl2:=h.d.l
  have e1:wu (abZ c.subs i).level=(abZ c.subs i).level:=aft (by omega)
  simp only [aa8]
  rw [h.l,e1]
  refine ⟨.w0 _ _ (aG8 h h1 hs ?_),h0,h1⟩
  have e2:=adH h.d (t:=id) (f:=1) (by omega)
  show acU (aav c) id 1<_
  have h1:0≤id∧id<c.tasks:=h1
  rw [e2,if_pos h1,hl]
  unfold aaU
  omega
 | n5 =>
  simp only [aa8]
  rw [h.l]
  exact ⟨.same _ (.inl (.fr h (aos h.d) (ahh _))),h0,h1⟩
 | n6 =>
  have h1:TOk c id:=h1
  have:=aw4 (d:=(abZ c.subs i).deadline) h h1 .l1 trivial
  simp only [aa8]
  revert this
  rcases abS (abZ c.subs i).deadline id e .l1 with ⟨o,e'⟩
  intro this
  cases o with
  | go s =>exact ⟨.same _ (.inl this.1),h0,h1,this.2⟩
  | fin c0 v0 =>exact .ite (fun _ =>⟨.an _ _ (this.1.an (.inl rfl)),h0,trivial⟩) fun _ =>⟨.drop _ (.inl this.1),h0,trivial⟩
 | a6 s =>
  have h2:TOk c id:=h1.1
  have:=aw4 (d:=(abZ c.subs i).deadline) h h2 s h1.2
  simp only [aa8]
  revert this
  rcases abS (abZ c.subs i).deadline id e s with ⟨o,e'⟩
  intro this
  cases o with
  | go s =>exact ⟨.same _ (.inl this.1),h0,h2,this.2⟩
  | fin c0 v0 =>exact .ite (fun _ =>⟨.an _ _ (this.1.an (.inl rfl)),h0,trivial⟩) fun _ =>⟨.drop _ (.inl this.1),h0,trivial⟩
 | n7 =>
  simp only [aa8]
  rw [h.l]
  exact ⟨.same none (.inl (.fr h (agm h.d) (by omega))),h0,trivial⟩
 | n8 =>
  simp only [aa8]
  exact .ite (fun _ =>⟨.same none (.inl (az6 h)),h0,trivial⟩) fun _ =>aAv ⟨h0,by show i≤1000; omega⟩ (.same none (.inl (az6 h)))
 | n9 =>
  have:=as1 (w:=me) (v:=(abZ c.subs i).level) h (.l1 0)
  simp only [aa8]
  revert this
  rcases adN me (abZ c.subs i).level e (.l1 0) with ⟨o,e'⟩
  intro this
  cases o with
  | go s =>exact ⟨.same none (.inl this),h0,trivial⟩
  | fin c0 v0 =>exact aAv ⟨h0,by show i≤1000; omega⟩ (.same none (.inl this))
 | a9 t =>
  have:=as1 (w:=me) (v:=(abZ c.subs i).level) h t
  simp only [aa8]
  revert this
  rcases adN me (abZ c.subs i).level e t with ⟨o,e'⟩
  intro this
  cases o with
  | go s =>exact ⟨.same none (.inl this),h0,trivial⟩
  | fin c0 v0 =>exact aAv ⟨h0,by show i≤1000; omega⟩ (.same none (.inl this))
end
theorem MI.ex {c:Cfg} {e:EnvP} (h:MI c e) {k:ClkV}:MI c { e with k:=k }:=⟨h.d,h.l,h.cc,h.ok⟩
theorem at1 {c:Cfg} {a:Int}:(am5 c).gt a=0:=by
 show (am5 c).m.gt a=0
 unfold MemV.gt
 split
 ·rename_i h
  exact List.eq_of_mem_replicate (asD (α:=Int) (d:=(dfR 0:TR 0)) h)
 ·rfl
theorem aIi {c:Cfg} (h:DecOk c):MI c (am5 c):=by
 refine ⟨h,rfl,rfl,fun a =>?_⟩
 rw [at1]
 have h1:=h.t
 have h2:=h.l
 have h3:=(arZ h).2
 exact ⟨Int.le_refl 0,fun _ =>h3,fun _ =>by omega,fun _ =>by omega⟩
end
section
inductive Ts where
 | fresh | alloc (m:Nat) | acc (m:Nat) | ready | run (m:Nat) | bm (m:Nat) | wait (u:Int) | fin (m:Nat) | fg (m:Nat) | done
inductive Ph where
 | n | p (id:Int) | q (id:Int) | j (t u:Int) | b (t u:Int) | r (t:Int) | f (t:Int) | g (t:Int) | h (t x:Int)
def upd {α:Type} (f:Int→α) (a:Int) (v:α) (x:Int):α:=if x=a then v else f x
def aez {α:Type} (f:Nat→α) (a:Nat) (v:α) (x:Nat):α:=if x=a then v else f x
theorem abh {α:Type} {f:Int→α} {a:Int} {v:α}:upd f a v a=v:=if_pos rfl
theorem abc {α:Type} {f:Int→α} {a x:Int} {v:α} (h:x≠a):upd f a v x=f x:=if_neg h
theorem aa5 {α:Type} {f:Nat→α} {a:Nat} {v:α}:aez f a v a=v:=if_pos rfl
theorem abI {α:Type} {f:Nat→α} {a x:Nat} {v:α} (h:x≠a):aez f a v x=f x:=if_neg h
def Ts.mine:Ts→Option Nat
 | .alloc m =>some m
 | .acc m =>some m
 | .run m =>some m
 | .bm m =>some m
 | .fin m =>some m
 | .fg m =>some m
 | _ =>none
def Ts.over:Ts→Prop
 | .fg _ =>True
 | .done =>True
 | _ =>False
structure Ab where
 T:Int
 N:Int
 S:Int→Int
 J:Int→Int
 wa:Int→Int
 st:Int→Bool
 kn:Int→Nat
 sn:Int→Nat
 fn:Int→Nat
 ts:Int→Ts
 hd:Nat→List Int
 ph:Nat→Ph
def Ab.ok (a:Ab) (t:Int):Prop:=0≤t∧t<a.T
def aJf (s:Ts) (S wa J:Int) (st:Bool) (kn fn:Nat):Prop:=match s with
 | .fresh =>S=0∧st=false∧kn=0∧fn=0
 | .alloc _ =>S=0∧st=false∧kn=0∧fn=0
 | .acc _ =>S=0∧st=false∧kn=1∧fn=0
 | .ready =>S=1∧kn=1∧fn=0
 | .run _ =>S=2∧st=true∧kn=1∧fn=0
 | .bm _ =>S=3∧st=true∧kn=1∧fn=0
 | .wait u =>S=3∧st=true∧kn=1∧fn=0∧wa=u
 | .fin _ =>S=4∧st=true∧kn=1∧fn=0
 | .fg _ =>S=4∧st=true∧kn=1∧fn=1∧J≠0
 | .done =>S=4∧st=true∧kn=1∧fn=1∧J≠0
def Cl (N t:Int) (s:Ts) (S wa J:Int) (st:Bool) (kn sn fn:Nat):Prop :=
 (sn=if st=true then 1 else 0)∧(s=.fresh↔N≤t)∧aJf s S wa J st kn fn
def Ab.phOk (a:Ab) (m:Nat) (hd:List Int):Ph→Prop
 | .n =>True
 | .p i =>a.ok i∧a.ts i=.alloc m
 | .q i =>a.ok i∧a.ts i=.acc m
 | .j t u =>t∈hd∧a.wa t=u
 | .b t u =>a.ok t∧a.ts t=.bm m∧a.wa t=u
 | .r t =>a.ok t∧a.ts t=.bm m
 | .f t =>a.ok t∧a.ts t=.fin m
 | .g t =>a.ok t∧a.ts t=.fg m∧∀ w,a.ok w→a.J t=w+1→a.ts w=.wait t
 | .h t x =>a.ok t∧a.ts t=.fg m∧a.ok x∧a.ts x=.wait t
structure LA (a:Ab):Prop where
 n0:0≤a.N
 no:∀ t,¬ a.ok t→a.kn t=0∧a.sn t=0∧a.fn t=0
 cl:∀ t,a.ok t→Cl a.N t (a.ts t) (a.S t) (a.wa t) (a.J t) (a.st t) (a.kn t) (a.sn t) (a.fn t)
 hd:∀ m t,t∈a.hd m→a.ok t∧a.ts t=.run m
 nd:∀ m,(a.hd m).Nodup
 ph:∀ m,a.phOk m (a.hd m) (a.ph m)
 j1:∀ u w,a.ok u→a.ok w→¬ (a.ts u).over→a.J u=w+1→a.ts w=.wait u
 jb:∀ u,a.ok u→a.J u≤4294967296
 c4:∀ m t,a.ok t→a.ts t=.fin m→a.ph m=.f t
theorem LA.put {a:Ab} (h:LA a) {m:Nat} {t:Int} (ht:a.ok t) {s:Ts} {S wa:Int} {st:Bool} {kn sn fn:Nat} {l:List Int} {p:Ph}
  (own:∀ m',(a.ts t).mine=some m'→m'=m) (hw:∀ u,a.ts t=.wait u→a.ok u∧a.ts u=.fg m)
  (ho:(a.ts t).over→s.over) (hc:Cl a.N t s S wa (a.J t) st kn sn fn)
  (hl:∀ x∈l,(x=t∧s=.run m)∨(x≠t∧x∈a.hd m)) (hn:l.Nodup)
  (h4:∀ m',s=.fin m'→m'=m∧p=.f t) (h5:∀ x,x≠t→a.ph m≠.f x)
  (hp:Ab.phOk { a with S:=upd a.S t S,wa:=upd a.wa t wa,st:=upd a.st t st,kn:=upd a.kn t kn,sn:=upd a.sn t sn,fn:=upd a.fn t fn,ts:=upd a.ts t s } m l p) :
  LA { a with S:=upd a.S t S,wa:=upd a.wa t wa,st:=upd a.st t st,kn:=upd a.kn t kn,sn:=upd a.sn t sn,fn:=upd a.fn t fn,ts:=upd a.ts t s,hd:=aez a.hd m l,ph:=aez a.ph m p } where
 n0:=h.n0
 no x hx:=by
  have hx':x≠t:=fun k =>hx (by rw [k]; exact ht)
  have:=h.no x hx
  simp only [abc hx']
  exact this
 cl x hx:=by
  by_cases hxt:x=t
  ·subst hxt; simp only [abh]; exact hc
  ·simp only [abc hxt]; exact h.cl x hx
 hd i x hx:=by
  by_cases hi:i=m
  ·subst hi
   simp only [aa5] at hx
   rcases hl x hx with ⟨k,k2⟩ | ⟨k,k2⟩
   ·subst k; exact ⟨ht,by simp only [abh]; exact k2⟩
   ·have:=h.hd i x k2
    exact ⟨this.1,by simp only [abc k]; exact this.2⟩
  ·simp only [abI hi] at hx
   have:=h.hd i x hx
   have hxt:x≠t:=fun k =>by
    rw [k] at this
    exact hi (own i (by rw [this.2]; rfl))
   exact ⟨this.1,by simp only [abc hxt]; exact this.2⟩
 nd i:=by
  by_cases hi:i=m
  ·subst hi; simp only [aa5]; exact hn
  ·simp only [abI hi]; exact h.nd i
 ph i:=by
  by_cases hi:i=m
  ·subst hi; simp only [aa5]; revert hp; cases p<;>exact id
  ·simp only [abI hi]
   have hv:=h.ph i
   have key:∀ {x s},a.ts x=s→s.mine=some i→x≠t:=fun e1 e2 k =>hi (own i (by rw [← k,e1]; exact e2))
   have key2:∀ {x u},a.ts x=.wait u→a.ts u=.fg i→x≠t:=fun e1 e2 k =>hi (by
    have:=(hw _ (k▸e1)).2
    rw [e2] at this
    exact Ts.fg.inj this)
   cases hq:a.ph i with
   | n =>trivial
   | p x =>rw [hq] at hv; exact ⟨hv.1,by simp only [abc (key hv.2 rfl)]; exact hv.2⟩
   | q x =>rw [hq] at hv; exact ⟨hv.1,by simp only [abc (key hv.2 rfl)]; exact hv.2⟩
   | j x u =>rw [hq] at hv; exact ⟨hv.1,by simp only [abc (key (h.hd i x hv.1).2 rfl)]; exact hv.2⟩
   | b x u =>rw [hq] at hv; exact ⟨hv.1,by simp only [abc (key hv.2.1 rfl)]; exact hv.2.1,by simp only [abc (key hv.2.1 rfl)]; exact hv.2.2⟩
   | r x =>rw [hq] at hv; exact ⟨hv.1,by simp only [abc (key hv.2 rfl)]; exact hv.2⟩
   | f x =>rw [hq] at hv; exact ⟨hv.1,by simp only [abc (key hv.2 rfl)]; exact hv.2⟩
   | g x =>rw [hq] at hv; exact ⟨hv.1,by simp only [abc (key hv.2.1 rfl)]; exact hv.2.1,fun w hw1 hj =>by
     have:=hv.2.2 w hw1 hj
     simp only [abc (key2 this hv.2.1)]; exact this⟩
   | h x w =>rw [hq] at hv; exact ⟨hv.1,by simp only [abc (key hv.2.1 rfl)]; exact hv.2.1,hv.2.2.1,by simp only [abc (key2 hv.2.2.2 hv.2.1)]; exact hv.2.2.2⟩
 j1 u w hu hw1 ho1 hj:=by
  have ho2:¬ (a.ts u).over:=fun k =>by
   by_cases hut:u=t
   ·subst hut; simp only [abh] at ho1; exact ho1 (ho k)
   ·simp only [abc hut] at ho1; exact ho1 k
  have:=h.j1 u w hu hw1 ho2 hj
  have hwt:w≠t:=fun k =>by
   subst k
   have:=(hw u this).2
   rw [this] at ho2
   exact ho2 trivial
  simp only [abc hwt]; exact this
 jb:=h.jb
 c4 i x hx hf:=by
  by_cases hxt:x=t
  ·subst hxt
   simp only [abh] at hf
   obtain ⟨k1,k2⟩:=h4 i hf
   subst k1; simp only [aa5]; exact k2
  ·simp only [abc hxt] at hf
   have:=h.c4 i x hx hf
   have hi:i≠m:=fun k =>h5 x hxt (k▸this)
   simp only [abI hi]; exact this
theorem LA.step {a:Ab} (h:LA a) {m:Nat} {l:List Int} {p:Ph} (hl:∀ x∈l,x∈a.hd m) (hn:l.Nodup) (hf:∀ x,a.ph m=.f x→p=.f x) (hp:a.phOk m l p) :
  LA { a with hd:=aez a.hd m l,ph:=aez a.ph m p } where
 n0:=h.n0
 no:=h.no
 cl:=h.cl
 hd i x hx:=by
  by_cases hi:i=m
  ·subst hi; simp only [aa5] at hx; exact h.hd i x (hl x hx)
  ·simp only [abI hi] at hx; exact h.hd i x hx
 nd i:=by
  by_cases hi:i=m
  ·subst hi; simp only [aa5]; exact hn
  ·simp only [abI hi]; exact h.nd i
 ph i:=by
  by_cases hi:i=m
  ·subst hi; simp only [aa5]; revert hp; cases p<;>exact id
  ·simp only [abI hi]
   have hv:=h.ph i
   revert hv
   cases a.ph i<;>exact id
 j1:=h.j1
 jb:=h.jb
 c4 i x hx hq:=by
  have:=h.c4 i x hx hq
  by_cases hi:i=m
  ·subst hi; simp only [aa5]; exact hf x this
  ·simp only [abI hi]; exact this
theorem LA.setJ {a:Ab} (h:LA a) {u v:Int} (h0:v≠0) (hb:v≤4294967296) (hv:∀ w,a.ok w→v=w+1→a.ts w=.wait u):LA { a with J:=upd a.J u v } where
 n0:=h.n0
 no:=h.no
 cl x hx:=by
  obtain ⟨c1,c2,c3⟩:=h.cl x hx
  refine ⟨c1,c2,?_⟩
  by_cases hxu:x=u
  ·subst hxu
   simp only [abh]
   revert c3
   cases a.ts x<;>first | exact id | exact fun k =>⟨k.1,k.2.1,k.2.2.1,k.2.2.2.1,h0⟩
  ·simp only [abc hxu]; exact c3
 hd:=h.hd
 nd:=h.nd
 ph i:=by
  have hq:=h.ph i
  revert hq
  cases a.ph i<;>first | exact id | skip
  case g x =>
   refine fun hq =>⟨hq.1,hq.2.1,fun w hw hj =>?_⟩
   by_cases hxu:x=u
   ·subst hxu; simp only [abh] at hj; exact hv w hw hj
   ·simp only [abc hxu] at hj; exact hq.2.2 w hw hj
 j1 x w hx hw ho hj:=by
  by_cases hxu:x=u
  ·subst hxu; simp only [abh] at hj; exact hv w hw hj
  ·simp only [abc hxu] at hj; exact h.j1 x w hx hw ho hj
 jb x hx:=by
  by_cases hxu:x=u
  ·subst hxu; simp only [abh]; exact hb
  ·simp only [abc hxu]; exact h.jb x hx
 c4:=h.c4
theorem LA.next {a:Ab} (h:LA a) {n:Int} (hn:a.N≤n) (ht:a.T≤a.N):LA { a with N:=n } where
 n0:=by have:=h.n0; show 0≤n; omega
 no:=h.no
 cl x hx:=by
  obtain ⟨c1,c2,c3⟩:=h.cl x hx
  have hx2:x<a.T:=hx.2
  exact ⟨c1,⟨fun k =>by have:=c2.1 k; omega,fun k =>by have k:n≤x:=k; omega⟩,c3⟩
 hd:=h.hd
 nd:=h.nd
 ph i:=by
  have hq:=h.ph i
  revert hq
  cases a.ph i<;>exact id
 j1:=h.j1
 jb:=h.jb
 c4:=h.c4
theorem LA.alloc {a:Ab} (h:LA a) {m:Nat} (ht:a.N<a.T) {l:List Int} (hl:∀ x∈l,x∈a.hd m) (hn:l.Nodup) (hp:a.ph m=.n) :
  LA { a with N:=a.N+1,st:=upd a.st a.N false,wa:=upd a.wa a.N (-1),ts:=upd a.ts a.N (.alloc m),hd:=aez a.hd m l,ph:=aez a.ph m (.p a.N) }:=by
 have hok:a.ok a.N:=⟨h.n0,ht⟩
 have hN:=h.cl _ hok
 have hfr:a.ts a.N=.fresh:=hN.2.1.2 (Int.le_refl _)
 have hne:∀ {x s},a.ts x=s→s≠.fresh→x≠a.N:=fun e1 e2 k =>e2 (by rw [← e1,k,hfr])
 rw [hfr] at hN
 obtain ⟨n1,n2,n3⟩:=hN
 refine ⟨by show 0≤a.N+1; have:=h.n0; omega,h.no,fun x hx =>?_,fun i x hx =>?_,fun i =>?_,fun i =>?_,fun u w hu hw ho hj =>?_,h.jb,fun i x hx hf =>?_⟩
 ·by_cases hxN:x=a.N
  ·subst hxN
   simp only [abh]
   refine ⟨by rw [n1,n3.2.1],⟨fun k =>(by cases k),fun k =>(by have k:a.N+1≤a.N:=k; omega)⟩,n3.1,rfl,n3.2.2.1,n3.2.2.2⟩
  ·simp only [abc hxN]
   obtain ⟨c1,c2,c3⟩:=h.cl x hx
   exact ⟨c1,⟨fun k =>by have:=c2.1 k; omega,fun k =>c2.2 (by omega)⟩,c3⟩
 ·have key:x∈a.hd i:=by
   by_cases hi:i=m
   ·subst hi; simp only [aa5] at hx; exact hl x hx
   ·simp only [abI hi] at hx; exact hx
  have:=h.hd i x key
  exact ⟨this.1,by simp only [abc (hne this.2 (by intro k; cases k))]; exact this.2⟩
 ·by_cases hi:i=m
  ·subst hi; simp only [aa5]; exact hn
  ·simp only [abI hi]; exact h.nd i
 ·by_cases hi:i=m
  ·subst hi; simp only [aa5]; exact ⟨hok,by simp only [abh]⟩
  ·simp only [abI hi]
   have hv:=h.ph i
   cases hq:a.ph i with
   | n =>trivial
   | p x =>rw [hq] at hv; exact ⟨hv.1,by simp only [abc (hne hv.2 (by intro k; cases k))]; exact hv.2⟩
   | q x =>rw [hq] at hv; exact ⟨hv.1,by simp only [abc (hne hv.2 (by intro k; cases k))]; exact hv.2⟩
   | j x u =>rw [hq] at hv; exact ⟨hv.1,by simp only [abc (hne (h.hd i x hv.1).2 (by intro k; cases k))]; exact hv.2⟩
   | b x u =>rw [hq] at hv; exact ⟨hv.1,by simp only [abc (hne hv.2.1 (by intro k; cases k))]; exact hv.2.1,by simp only [abc (hne hv.2.1 (by intro k; cases k))]; exact hv.2.2⟩
   | r x =>rw [hq] at hv; exact ⟨hv.1,by simp only [abc (hne hv.2 (by intro k; cases k))]; exact hv.2⟩
   | f x =>rw [hq] at hv; exact ⟨hv.1,by simp only [abc (hne hv.2 (by intro k; cases k))]; exact hv.2⟩
   | g x =>rw [hq] at hv; exact ⟨hv.1,by simp only [abc (hne hv.2.1 (by intro k; cases k))]; exact hv.2.1,fun w hw1 hj =>by
     have:=hv.2.2 w hw1 hj
     simp only [abc (hne this (by intro k; cases k))]; exact this⟩
   | h x w =>rw [hq] at hv; exact ⟨hv.1,by simp only [abc (hne hv.2.1 (by intro k; cases k))]; exact hv.2.1,hv.2.2.1,by simp only [abc (hne hv.2.2.2 (by intro k; cases k))]; exact hv.2.2.2⟩
 ·have ho2:¬ (a.ts u).over:=fun k =>by
   by_cases hut:u=a.N
   ·rw [hut,hfr] at k; exact k
   ·simp only [abc hut] at ho; exact ho k
  have:=h.j1 u w hu hw ho2 hj
  simp only [abc (hne this (by intro k; cases k))]; exact this
 ·have hxN:x≠a.N:=fun k =>by
   rw [k] at hf; simp only [abh] at hf; cases hf
  simp only [abc hxN] at hf
  have:=h.c4 i x hx hf
  have hi:i≠m:=fun k =>by rw [k,hp] at this; cases this
  simp only [abI hi]; exact this
theorem aIt {T:Int} {wa:Int→Int} {st:Int→Bool} (hs:∀ t,0≤t→t<T→st t=false):LA ⟨T,0,fun _ =>0,fun _ =>0,wa,st,fun _ =>0,fun _ =>0,fun _ =>0,fun _ =>.fresh,fun _ =>[],fun _ =>.n⟩ where
 n0:=Int.le_refl 0
 no _ _:=⟨rfl,rfl,rfl⟩
 cl t ht:=by
  have h:st t=false:=hs t ht.1 ht.2
  exact ⟨by simp only [h]; rfl,⟨fun _ =>ht.1,fun _ =>rfl⟩,rfl,h,rfl,rfl⟩
 hd _ _ h:=by cases h
 nd _:=.nil
 ph _:=trivial
 j1 u w hu hw _ hj:=by have:=hw.1; have hj:0=w+1:=hj; omega
 jb _ _:=by show (0:Int)≤_; omega
 c4 _ _ _ h:=by cases h
end
section
open Go Go.RowKit
set_option maxRecDepth 100000
variable [Tb]
abbrev Stt (c:Cfg) (e:EnvP) (t:Int):Int:=e.gt (aaN (aav c) t)
abbrev Jo (c:Cfg) (e:EnvP) (t:Int):Int:=e.gt (acB (aav c) t)
abbrev Wt (c:Cfg) (e:EnvP) (t:Int):Int:=e.gt (ad9 (aav c) t)
structure Qs (c:Cfg) (e e':EnvP):Prop where
 st:∀ t,Stt c e' t=Stt c e t
 jo:∀ t,Jo c e' t=Jo c e t
 wa:∀ t,Wt c e' t=Wt c e t
 nx:e'.gt 0=e.gt 0
 rc:e'.recs=e.recs
 ev:∃ l,e'.evs=e.evs++l∧∀ x∈l,11≤x.kind
def N7 (c:Cfg) (a:Int):Prop:=ckC c a≠0∧ckC c a≠7
section
variable {c:Cfg} {e e':EnvP} {a v k o w x:Int}
theorem awb (h:DecOk c) {t f:Int} (hf:0≤f∧f<5) (hf1:f≠1) (h0:0≤acU (aav c) t f):ckC c (acU (aav c) t f)=7:=by
 have e1:=asq h (t:=t) hf
 have e2:=adH h (t:=t) hf
 by_cases ht:0≤t∧t<c.tasks
 ·rw [e1,if_pos ht,if_neg hf1]
 ·rw [e2,if_neg ht] at h0; omega
theorem aIL (h:DecOk c) {t u f g:Int} (hf:0≤f∧f<5) (hg:0≤g∧g<5) (hne:f≠g) (h0:0≤acU (aav c) t f):acU (aav c) t f≠acU (aav c) u g:=by
 have e1:=adH h (t:=t) hf
 have e2:=adH h (t:=u) hg
 intro k
 by_cases ht:0≤t∧t<c.tasks
 ·rw [if_pos ht] at e1
  by_cases hu:0≤u∧u<c.tasks
  ·rw [if_pos hu] at e2; omega
  ·rw [if_neg hu] at e2; omega
 ·rw [e1,if_neg ht] at h0; omega
theorem aHc (h:DecOk c) {t u f:Int} (hf:0≤f∧f<5) (ht:TOk c t) (k:acU (aav c) u f=acU (aav c) t f):u=t:=by
 have e1:=adH h (t:=t) hf
 have e2:=adH h (t:=u) hf
 have e3:=ag0 h
 have h4:=h.h
 have ht:0≤t∧t<c.tasks:=ht
 rw [if_pos ht] at e1
 by_cases hu:0≤u∧u<c.tasks
 ·rw [if_pos hu] at e2; omega
 ·rw [if_neg hu] at e2; omega
theorem aF2 (h:DecOk c) (ha:N7 c a) {t f:Int} (hf:0≤f∧f<5) (hf1:f≠1):(e.pt k a v).gt (acU (aav c) t f)=e.gt (acU (aav c) t f):=by
 rw [aho,if_neg]
 intro h'
 have:=awb h (t:=t) hf hf1 (by omega)
 rw [h'.1] at this
 exact ha.2 this
theorem alZ (h:DecOk c) {t u f g:Int} (hf:0≤f∧f<5) (hg:0≤g∧g<5) (hne:f≠g):(e.pt k (acU (aav c) u g) v).gt (acU (aav c) t f)=e.gt (acU (aav c) t f):=by
 rw [aho,if_neg]
 intro h'
 exact aIL h hf hg hne (by omega) h'.1
theorem at0 (h:DecOk c) {u g:Int} (hg:0≤g∧g<5) (hg1:g≠1):(e.pt k (acU (aav c) u g) v).gt 0=e.gt 0:=by
 rw [aho,if_neg]
 intro h'
 have:=awb h (t:=u) hg hg1 (by omega)
 rw [← h'.1,aeW] at this
 omega
theorem Qs.refl:Qs c e e:=⟨fun _ =>rfl,fun _ =>rfl,fun _ =>rfl,rfl,rfl,[],by simp,fun x hx =>by cases hx⟩
theorem Qs.lk:Qs c e (e.lk a):=⟨fun _ =>avu,fun _ =>avu,fun _ =>avu,avu,rfl,[],by show e.evs=_; simp,fun x hx =>by cases hx⟩
theorem Qs.wr (h:DecOk c) (ha:N7 c a):Qs c e (e.pt k a v) :=
 ⟨fun t =>aF2 h ha (f:=0) (by omega) (by omega),fun t =>aF2 h ha (f:=2) (by omega) (by omega),fun t =>aF2 h ha (f:=3) (by omega) (by omega),by
  rw [aho,if_neg]
  intro h'
  have:=ha.1
  rw [← h'.1,aeW] at this
  exact this rfl,rfl,[],by show e.evs=_; simp,fun x hx =>by cases hx⟩
theorem Qs.since (h:DecOk c) {t:Int}:Qs c e (e.pt k (ald (aav c) t) v) :=
 ⟨fun t =>alZ h (f:=0) (by omega) (by omega) (by omega),fun t =>alZ h (f:=2) (by omega) (by omega) (by omega),fun t =>alZ h (f:=3) (by omega) (by omega) (by omega),at0 h (by omega) (by omega),rfl,[],by show e.evs=_; simp,fun x hx =>by cases hx⟩
theorem Qs.cas (h:DecOk c) (ha:N7 c a):Qs c e (e.cas a o v):=Qs.wr h ha
theorem Qs.em {t l:Int} (h:Qs c e e') (hk:11≤k):Qs c e (e'.em k w t o l):=by
 obtain ⟨m,hm,hp⟩:=h.ev
 refine ⟨h.st,h.jo,h.wa,h.nx,h.rc,m++[⟨k,w,t,o,l⟩],by show e'.evs++[_]=_; rw [hm,List.append_assoc],fun x hx =>?_⟩
 rcases List.mem_append.1 hx with hx | hx
 ·exact hp x hx
 ·rw [List.mem_singleton.1 hx]; exact hk
theorem aDU (h:DecOk c) (w v:Int):N7 c (aat (aav c) w v).top:=by
 have h3:=h.q
 unfold N7
 rcases agH h w v with e | ⟨k,h1,h2,e⟩<;>rw [e]
 ·rw [af0]; omega
 ·have:=aub h ⟨h1,h2⟩ (j:=0) (by omega)
  rw [Int.add_zero,if_pos (by omega)] at this
  show ckC c ((aav c).queues+k*(2+c.deque))≠0∧ckC c ((aav c).queues+k*(2+c.deque))≠7
  omega
theorem alG (h:DecOk c) (w v:Int):N7 c (aat (aav c) w v).bottom:=by
 have h3:=h.q
 unfold N7
 rcases agH h w v with e | ⟨k,h1,h2,e⟩<;>rw [e]
 ·rw [af0]; omega
 ·have:=aub h ⟨h1,h2⟩ (j:=1) (by omega)
  rw [if_pos (by omega)] at this
  show ckC c ((aav c).queues+k*(2+c.deque)+1)≠0∧ckC c ((aav c).queues+k*(2+c.deque)+1)≠7
  omega
theorem aFE (h:DecOk c) (w v:Int) {b:Int} (hb:0≤b):N7 c (agW (aat (aav c) w v) b):=by
 have:=aoy h w v hb
 unfold N7; omega
theorem arP (h:DecOk c) {i:Int}:N7 c (aeN (aav c) i):=by have:=aox h (i:=i); unfold N7; omega
theorem apu (h:DecOk c) {w:Int}:N7 c (aaF (aav c) w):=by have:=auj h (w:=w); unfold N7; omega
theorem aCv (h:DecOk c) {w:Int}:N7 c (afL (aav c) w):=by have:=axv h (w:=w); unfold N7; omega
theorem ajZ (h:DecOk c) {t:Int}:N7 c (abx (aav c) t):=by have:=afM h (t:=t); unfold N7; omega
theorem apt (h:DecOk c) {a:Int} (ha:1≤a∧a≤3):N7 c a:=by have:=axn h ha; unfold N7; omega
theorem arQ (h:MI c e):N7 c (af3 w e):=by have:=ata (w:=w) h; unfold N7; omega
theorem aFD {j:Int} (h:MI c e):N7 c (ake v j e):=by have:=av3 (v:=v) (j:=j) h; unfold N7; omega
theorem aFt (h:MI c e) (s:OPushS) (hs:ano s):Qs c e (aei (aat (aav c) w v) x e s).2:=by
 cases s with
 | l1 =>exact .lk
 | l2 b =>exact .lk
 | l3 b =>exact .wr h.d (aFE h.d _ _ hs)
 | l4 b =>exact .wr h.d (alG h.d _ _)
theorem aHN (h:MI c e) (s:OPopS):Qs c e (akM (aat (aav c) w v) e s).2:=by
 cases s with
 | l1 =>exact .lk
 | l2 b =>exact .lk
 | l3 b t =>exact .wr h.d (alG h.d _ _)
 | l4 b t =>exact .lk
 | l5 b t =>exact .lk
 | l6 b t =>exact .cas h.d (aDU h.d _ _)
 | l7 b t =>exact .wr h.d (alG h.d _ _)
 | l8 b t =>exact .lk
 | l9 b t =>exact .wr h.d (alG h.d _ _)
theorem aEE (h:MI c e) (s:StealS):Qs c e (agD (aat (aav c) w v) e s).2:=by
 cases s with
 | l1 =>exact .lk
 | l2 b =>exact .lk
 | l3 t =>exact .lk
 | l4 t u =>exact .cas h.d (aDU h.d _ _)
theorem ayV {a b:Int} (h:MI c e) (s:ResetS):Qs c e (aeB (aaF (aav c) a) b (aat (aav c) w v) e s).2:=by
 cases s with
 | l1 =>exact .wr h.d (apu h.d)
 | l2 =>exact .lk
 | l3 x =>exact .lk
 | l4 x =>exact .wr h.d (apu h.d)
theorem aJK {a b:Int} (h:MI c e):Qs c e (aBN (aaF (aav c) a) b e):=.wr h.d (apu h.d)
theorem atS {o:Int} (h:MI c e):Qs c e (aqq o e):=.cas h.d (apt h.d (by omega))
theorem az5 (h:MI c e):Qs c e (ar7 e):=.wr h.d (apt h.d (by omega))
theorem aw3 {d t:Int} (h:MI c e) (s:InsertS):Qs c e (abS d t e s).2:=by
 cases s with
 | l1 =>exact .lk
 | l2 n =>exact .wr h.d (apt h.d (by omega))
 | l3 n i k x =>exact .lk
 | l4 n i k x =>
  unfold abS
  rw [h.l]
  exact .wr h.d (arP h.d)
 | l5 n i k x =>
  unfold abS
  rw [h.l]
  exact .wr h.d (arP h.d)
 | l6 n i k x =>exact .wr h.d (apt h.d (by omega))
theorem aBX (h:MI c e) (s:RemoveS):Qs c e (acl w e s).2:=by
 cases s with
 | l1 =>exact .lk
 | l2 n =>exact .lk
 | l3 n x =>exact .lk
 | l4 n x y =>exact (Qs.wr h.d (apt h.d (by omega))).em (by omega)
 | l5 n i d x y z =>exact .lk
 | l6 n i d x y z =>exact .lk
 | l7 n i d x y z =>
  unfold acl
  rw [h.l]
  exact .wr h.d (arP h.d)
 | l8 n i d x y z =>
  unfold acl
  rw [h.l]
  exact .wr h.d (arP h.d)
theorem aEL (h:MI c e) (s:SleepS):Qs c e (ac5 w e s).2:=by
 cases s with
 | l1 =>exact .lk
 | l2 ep =>exact .wr h.d (arQ h)
 | l3 ep =>exact .lk
 | l4 ep v =>
  simp only [ac5]
  split
  ·exact .lk
  ·split
   ·exact Qs.lk.em (by omega)
   ·exact .lk
 | l5 ep v s =>
  simp only [ac5]
  split
  ·exact Qs.lk.em (by omega)
  ·split
   ·exact Qs.lk.em (by omega)
   ·exact .lk
 | l6 _ _ _ =>exact .wr h.d (arQ h)
 | l7 _ _ _ =>exact .wr h.d (arQ h)
theorem as0 (h:MI c e) (s:WakeS):Qs c e (adN w v e s).2:=by
 cases s with
 | l1 j =>exact .lk
 | l2 j x =>exact .wr h.d (aFD h)
 | l3 j x =>
  show Qs c e ((e.pt 6 (afL e.l x) _).em 18 w 0 x 0)
  rw [h.l]
  exact (Qs.wr h.d (aCv h.d)).em (by omega)
theorem aFi (s:ProbeS):Qs c e (aiL w e s).2:=by
 have g:∀ s i bm,Qs c e (af5 w e s i bm).2:=fun s i bm =>by
  unfold af5
  split
  ·exact .refl
  ·simp only
   split
   ·exact .lk
   ·exact .lk
 cases s with
 | new =>exact g _ _ _
 | run s i bm =>exact g _ _ _
theorem aFc {t:Int} (h:MI c e) (s:RaiseS):Qs c e (aea w t v e s).2:=by
 unfold aea
 rw [h.l]
 split
 ·exact .refl
 ·cases s with
  | l1 q =>exact .lk
  | l2 q =>
   simp only
   split
   ·exact (Qs.cas h.d (ajZ h.d)).em (by omega)
   ·exact .cas h.d (ajZ h.d)
theorem apy (h:MI c e) (s:LPushS) (hs:aiI s):Qs c e (abw w v x e s).2:=by
 have g:∀ s,ano s→Qs c e (match aei (aat e.l w v) x e s with
   | (.go s,e') =>(Rs.go (LPushS.push s),e')
   | (.fin c _,e') =>(if c=3 then .fin 3 0 else .go .set,e')).2:=fun s hs =>by
  have:=aFt (w:=w) (v:=v) (x:=x) h s hs
  rw [h.l]
  revert this
  rcases aei (aat (aav c) w v) x e s with ⟨r,e'⟩
  intro this
  cases r<;>exact this
 cases s with
 | new =>exact g .l1 trivial
 | push s =>exact g _ hs
 | set =>
  show Qs c e (aBN (aaF e.l w) v e)
  rw [h.l]
  exact aJK h
theorem aIm (h:MI c e) (s:LPopS):Qs c e (afF w e s).2:=by
 cases s with
 | l1 v =>exact .lk
 | l2 v s =>
  have:=aHN (w:=w) (v:=v) h s
  simp only [afF]
  rw [h.l]
  revert this
  rcases akM (aat (aav c) w v) e s with ⟨r,e'⟩
  intro this
  cases r<;>exact this
 | l3 v s =>
  have:=ayV (w:=w) (v:=v) (a:=w) (b:=v) h s
  simp only [afF]
  rw [h.l]
  revert this
  rcases aeB (aaF (aav c) w) v (aat (aav c) w v) e s with ⟨r,e'⟩
  intro this
  cases r<;>exact this
theorem aG6 (h:MI c e) (s:WalkS) (hs:aqf c v s):Qs c e (ad3 w v e s).2:=by
 have g:∀ t s,Qs c e (match aea w t v e s with
   | (.go s,e') =>(Rs.go (WalkS.raise t s),e')
   | (.fin c _,e') =>(.go (if c=1 then .l2 t else .l4 t),e')).2:=fun t s =>by
  have:=aFc (w:=w) (v:=v) (t:=t) h s
  revert this
  rcases aea w t v e s with ⟨r,e'⟩
  intro this
  cases r<;>exact this
 cases s with
 | l1 t =>
  simp only [ad3]
  split
  ·exact .refl
  ·exact g t _
 | raise t s =>exact g t s
 | l2 t =>exact .lk
 | push t s =>
  have:=apy (w:=w) (v:=v) (x:=t) h s hs.2
  simp only [ad3]
  revert this
  rcases abw w v t e s with ⟨r,e'⟩
  intro this
  cases r with
  | go s =>exact this
  | fin c0 v0 =>
   show Qs c e (if c0=3 then e'.em 19 w t 0 v else e')
   split
   ·exact this.em (by omega)
   ·exact this
 | l4 t =>exact .lk
theorem aEt {t:Int} (h:MI c e) (s:SweepS) (hs:asO c s):Qs c e (aba w t e s).2:=by
 cases s with
 | l1 =>
  simp only [aba]
  split
  ·exact .refl
  ·exact .lk
 | l2 =>exact .lk
 | l3 =>exact .lk
 | l4 q =>
  simp only [aba]
  rw [h.l]
  split
  ·exact (Qs.cas h.d (ajZ h.d)).em (by omega)
  ·exact .cas h.d (ajZ h.d)
 | l5 q =>
  simp only [aba]
  rw [h.l]
  exact .since h.d
 | l6 q s =>
  have:=apy (w:=w) (v:=wi (wi q+1)) (x:=t) h s hs
  simp only [aba]
  revert this
  rcases abw w (wi (wi q+1)) t e s with ⟨r,e'⟩
  intro this
  cases r with
  | go s =>exact this
  | fin c0 v0 =>
   show Qs c e (if c0=3 then e'.em 19 w t 0 _ else e')
   split
   ·exact this.em (by omega)
   ·exact this
theorem aGp (h:MI c e) (d:DrainS) (hd:auA c d):Qs c e (aa3 w e d).2:=by
 obtain ⟨x,dir,p,last,cnt,k⟩:=d
 obtain ⟨h1,h2⟩:=hd
 cases k with
 | l1 =>exact .lk
 | l2 =>exact atS h
 | l3 s =>
  have:=aBX (w:=w) h s
  simp only [aa3]
  revert this
  rcases acl w e s with ⟨r,e'⟩
  intro this
  cases r<;>exact this
 | l4 =>exact .lk
 | l5 s =>
  have:=apy (w:=w) (v:=p) (x:=x) h s h2.2
  simp only [aa3]
  revert this
  rcases abw w p x e s with ⟨r,e'⟩
  intro this
  cases r<;>exact this
 | l6 =>exact az5 h
 | l7 s =>
  have:=as0 (w:=w) (v:=last) h s
  simp only [aa3]
  revert this
  rcases adN w last e s with ⟨r,e'⟩
  intro this
  cases r<;>exact this
end
def acM (p:Int→Bool) (l:List Ev) (t:Int):Nat:=l.countP fun x =>decide (x.task=t) && p x.kind
def kKn (k:Int):Bool:=decide (k=1∨k=3)
def kSn (k:Int):Bool:=decide (k=5)
def kFn (k:Int):Bool:=decide (k=10)
def rcw (e:EnvP) (t:Int):Int:=if 0≤t then (e.rc t).waiting else -1
def rcs (e:EnvP) (t:Int):Bool:=if 0≤t then (e.rc t).started else false
abbrev Vw:=List Int×Ph
def aiH (c:Cfg) (e:EnvP) (ts:Int→Ts) (vs:Nat→Vw):Ab :=
 ⟨c.tasks,e.gt 0,Stt c e,Jo c e,rcw e,rcs e,acM kKn e.evs,acM kSn e.evs,acM kFn e.evs,ts,fun m =>(vs m).1,fun m =>(vs m).2⟩
structure LI (c:Cfg) (e:EnvP) (vs:Nat→Vw):Prop where
 rl:(e.recs.length:Int)=c.tasks
 la:∃ ts,LA (aiH c e ts vs)
def Lw (c:Cfg) (e e':EnvP) (v v':Vw):Prop:=∀ m vs,vs m=v→LI c e vs→LI c e' (aez vs m v')
def Mi (x:Ev):Prop:=x.kind≠1∧x.kind≠3∧x.kind≠5∧x.kind≠10
theorem aoK {α:Type} {f:Nat→α} {m:Nat} {v:α} (h:f m=v):aez f m v=f:=funext fun j =>by
 unfold aez; split
 ·rename_i k; rw [k,h]
 ·rfl
theorem axF {α:Type} {f:Nat→α} {m:Nat} {v w:α}:aez (aez f m v) m w=aez f m w:=funext fun j =>by
 unfold aez; split<;>rfl
theorem ac3 {p:Int→Bool} {l k:List Ev} {t:Int}:acM p (l++k) t=acM p l t+acM p k t:=List.countP_append
theorem aow {p:Int→Bool} {l:List Ev} {t:Int} (h:∀ x∈l,x.task=t→p x.kind=false):acM p l t=0:=by
 unfold acM
 rw [List.countP_eq_zero]
 intro x hx
 by_cases k:x.task=t
 ·rw [h x hx k]; simp
 ·simp [k]
theorem ad0 {p:Int→Bool} {k w t o v u:Int}:acM p [⟨k,w,t,o,v⟩] u=if t=u∧p k=true then 1 else 0:=by
 unfold acM
 rw [List.countP_cons,List.countP_nil]
 simp
section
variable {c:Cfg} {e e1 e':EnvP} {v v1 v':Vw}
theorem Lw.trans (h1:Lw c e e1 v v1) (h2:Lw c e1 e' v1 v'):Lw c e e' v v':=fun m vs hv h =>by
 have:=h2 m _ aa5 (h1 m vs hv h)
 rw [axF] at this
 exact this
structure Of1 (c:Cfg) (e e':EnvP) (t:Int):Prop where
 st:∀ x,x≠t→Stt c e' x=Stt c e x
 jo:∀ x,Jo c e' x=Jo c e x
 nx:e'.gt 0=e.gt 0
 rl:e'.recs.length=e.recs.length
 rc:∀ x,x≠t→0≤x→e'.rc x=e.rc x
 ev:∃ l,e'.evs=e.evs++l∧∀ y∈l,y.task=t∨Mi y
theorem aIj {x:Ev} (h:Mi x):kKn x.kind=false:=by unfold kKn; rw [decide_eq_false_iff_not]; unfold Mi at h; omega
theorem aIh {x:Ev} (h:Mi x):kSn x.kind=false:=by unfold kSn; rw [decide_eq_false_iff_not]; unfold Mi at h; omega
theorem aIk {x:Ev} (h:Mi x):kFn x.kind=false:=by unfold kFn; rw [decide_eq_false_iff_not]; unfold Mi at h; omega
theorem aIY {p:Int→Bool} (hp:∀ x,Mi x→p x.kind=false) {l k:List Ev} (hk:∀ x∈k,Mi x) {t:Int}:acM p (l++k) t=acM p l t:=by
 rw [ac3,aow fun x hx _ =>hp x (hk x hx),Nat.add_zero]
theorem aDN {t:Int} {s0 s:Ts} {l:List Int} {p:Ph} (ht:TOk c t) (o:Of1 c e e' t)
  (H:∀ (a:Ab) (m:Nat),LA a→a.T=c.tasks→a.S=Stt c e→a.J=Jo c e→a.wa=rcw e→a.st=rcs e→a.kn=acM kKn e.evs→a.sn=acM kSn e.evs→a.fn=acM kFn e.evs→a.hd m=v.1→a.ph m=v.2 →
   ∃ s:Ts,(∀ m',(a.ts t).mine=some m'→m'=m)∧(∀ u,a.ts t=.wait u→a.ok u∧a.ts u=.fg m)∧((a.ts t).over→s.over) ∧
    Cl a.N t s (Stt c e' t) (rcw e' t) (Jo c e t) (rcs e' t) (acM kKn e'.evs t) (acM kSn e'.evs t) (acM kFn e'.evs t) ∧
    (∀ x∈l,(x=t∧s=.run m)∨(x≠t∧x∈a.hd m))∧l.Nodup∧(∀ m',s=.fin m'→m'=m∧p=.f t)∧(∀ x,x≠t→a.ph m≠.f x) ∧
    Ab.phOk { a with S:=upd a.S t (Stt c e' t),wa:=upd a.wa t (rcw e' t),st:=upd a.st t (rcs e' t),kn:=upd a.kn t (acM kKn e'.evs t),sn:=upd a.sn t (acM kSn e'.evs t),fn:=upd a.fn t (acM kFn e'.evs t),ts:=upd a.ts t s } m l p) :
  Lw c e e' v (l,p):=fun m vs hv h =>by
 obtain ⟨rl,ts,la⟩:=h
 obtain ⟨s,k1,k2,k3,k4,k5,k6,k7,k8,k9⟩:=H _ m la rfl rfl rfl rfl rfl rfl rfl rfl (by show (vs m).1=_; rw [hv]) (by show (vs m).2=_; rw [hv])
 have:=la.put (t:=t) ht k1 k2 k3 k4 k5 k6 k7 k8 k9
 refine ⟨by rw [o.rl]; exact rl,upd ts t s,?_⟩
 obtain ⟨k,hk,hm⟩:=o.ev
 have ec:∀ {q:Int→Bool},(∀ x,Mi x→q x.kind=false)→∀ x,upd (acM q e.evs) t (acM q e'.evs t) x=acM q e'.evs x:=fun {q} hq x =>by
  by_cases hx:x=t
  ·subst hx; exact abh
  ·rw [abc hx,hk,ac3,aow (l:=k) fun y hy e1 =>?_,Nat.add_zero]
   rcases hm y hy with e2 | e2
   ·exact absurd (e1.symm.trans e2) hx
   ·exact hq y e2
 have q1:upd (Stt c e) t (Stt c e' t)=Stt c e':=funext fun x =>by
  by_cases hx:x=t
  ·subst hx; exact abh
  ·rw [abc hx,o.st x hx]
 have q2:upd (rcw e) t (rcw e' t)=rcw e':=funext fun x =>by
  by_cases hx:x=t
  ·subst hx; exact abh
  ·rw [abc hx]; unfold rcw; split
   ·rename_i h0; rw [o.rc x hx h0]
   ·rfl
 have q3:upd (rcs e) t (rcs e' t)=rcs e':=funext fun x =>by
  by_cases hx:x=t
  ·subst hx; exact abh
  ·rw [abc hx]; unfold rcs; split
   ·rename_i h0; rw [o.rc x hx h0]
   ·rfl
 have q4:Jo c e'=Jo c e:=funext o.jo
 have e1:aiH c e' (upd ts t s) (aez vs m (l,p))={ aiH c e ts vs with S:=upd (Stt c e) t (Stt c e' t),wa:=upd (rcw e) t (rcw e' t),st:=upd (rcs e) t (rcs e' t),kn:=upd (acM kKn e.evs) t (acM kKn e'.evs t),sn:=upd (acM kSn e.evs) t (acM kSn e'.evs t),fn:=upd (acM kFn e.evs) t (acM kFn e'.evs t),ts:=upd ts t s,hd:=aez (fun m =>(vs m).1) m l,ph:=aez (fun m =>(vs m).2) m p }:=by
  rw [q1,q2,q3,funext (ec fun x =>aIj),funext (ec fun x =>aIh),funext (ec fun x =>aIk)]
  unfold aiH
  rw [q4,o.nx]
  congr 1
  ·funext j; unfold aez; split<;>rfl
  ·funext j; unfold aez; split<;>rfl
 rw [e1]
 exact this
theorem auT (h1:∀ t,Stt c e' t=Stt c e t) (h2:∀ t,Jo c e' t=Jo c e t) (h3:e'.gt 0=e.gt 0) (h4:e'.recs=e.recs) (h5:∃ l,e'.evs=e.evs++l∧∀ x∈l,Mi x) (ts:Int→Ts) (vs:Nat→Vw):aiH c e' ts vs=aiH c e ts vs:=by
 obtain ⟨l,hl,hm⟩:=h5
 have e1:Stt c e'=Stt c e:=funext h1
 have e2:Jo c e'=Jo c e:=funext h2
 have e3:rcw e'=rcw e:=funext fun t =>by unfold rcw EnvP.rc; rw [h4]
 have e4:rcs e'=rcs e:=funext fun t =>by unfold rcs EnvP.rc; rw [h4]
 have e5:∀ {q:Int→Bool},(∀ x,Mi x→q x.kind=false)→acM q e'.evs=acM q e.evs:=fun {q} hq =>funext fun t =>by rw [hl,aIY hq hm]
 unfold aiH
 rw [e1,e2,h3,e3,e4,e5 fun x =>aIj,e5 fun x =>aIh,e5 fun x =>aIk]
theorem Qs.mi (h:Qs c e e'):∃ l,e'.evs=e.evs++l∧∀ x∈l,Mi x:=by
 obtain ⟨l,hl,hm⟩:=h.ev
 exact ⟨l,hl,fun x hx =>by have:=hm x hx; unfold Mi; omega⟩
theorem avU {ts:Int→Ts} {vs:Nat→Vw} {m:Nat} {w:Vw}:aiH c e ts (aez vs m w)={ aiH c e ts vs with hd:=aez (fun m =>(vs m).1) m w.1,ph:=aez (fun m =>(vs m).2) m w.2 }:=by
 unfold aiH
 congr 1
 ·funext j; unfold aez; split<;>rfl
 ·funext j; unfold aez; split<;>rfl
theorem auP {l:List Int} {p:Ph} (hl:∀ x∈l,x∈v.1) (hn:v.1.Nodup→l.Nodup) (hf:∀ x,v.2=.f x→p=.f x)
  (H:∀ (a:Ab) (m:Nat),LA a→a.T=c.tasks→a.J=Jo c e→a.wa=rcw e→a.hd m=v.1→a.ph m=v.2→a.phOk m l p):Lw c e e v (l,p):=fun m vs hv h =>by
 obtain ⟨rl,ts,la⟩:=h
 have e1:(aiH c e ts vs).hd m=v.1:=by show (vs m).1=_; rw [hv]
 have e2:(aiH c e ts vs).ph m=v.2:=by show (vs m).2=_; rw [hv]
 refine ⟨rl,ts,?_⟩
 rw [avU]
 exact la.step (fun x hx =>by rw [e1]; exact hl x hx) (hn (by rw [← e1]; exact la.nd m)) (fun x hx =>hf x (by rw [← e2]; exact hx)) (H _ m la rfl rfl rfl e1 e2)
theorem Lw.env {e0:EnvP} (h:∀ ts vs,aiH c e' ts vs=aiH c e ts vs) (hr:e'.recs.length=e.recs.length) (hv:Lw c e0 e v v'):Lw c e0 e' v v':=fun m vs hm hl =>by
 obtain ⟨rl,ts,la⟩:=hv m vs hm hl
 exact ⟨by rw [hr]; exact rl,ts,by rw [h]; exact la⟩
theorem Lw.refl:Lw c e e v v:=fun m vs hv h =>by rw [aoK hv]; exact h
theorem Lw.q (h:Qs c e e') (hv:Lw c e e v v'):Lw c e e' v v':=hv.env (auT h.st h.jo h.nx h.rc h.mi) (by rw [h.rc])
theorem Lw.qr {e0:EnvP} (h:Qs c e e') (hv:Lw c e0 e v v'):Lw c e0 e' v v':=hv.env (auT h.st h.jo h.nx h.rc h.mi) (by rw [h.rc])
theorem Lw.em {e0:EnvP} {k w t o x:Int} (hk:k≠1∧k≠3∧k≠5∧k≠10) (hv:Lw c e0 e v v'):Lw c e0 (e.em k w t o x) v v' :=
 Lw.env (e:=e) (e':=e.em k w t o x) (auT (fun _ =>rfl) (fun _ =>rfl) rfl rfl ⟨[⟨k,w,t,o,x⟩],rfl,fun y hy =>by rw [List.mem_singleton.1 hy]; exact hk⟩) rfl hv
theorem Lw.drop {l:List Int} (hl:∀ x∈l,x∈v.1) (hn:v.1.Nodup→l.Nodup) (hf:∀ x,v.2≠.f x):Lw c e e v (l,.n) :=
 auP hl hn (fun x h =>absurd h (hf x)) fun a m la hT hJ hw hh hp =>trivial
end
end
end Go.Proofs.YtidhehdanppcoaaGreat
