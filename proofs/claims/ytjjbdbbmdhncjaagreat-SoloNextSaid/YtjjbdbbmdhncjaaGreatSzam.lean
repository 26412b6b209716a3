/- What always holds of the reference's machines,2: frames,their stack,a step. What always holds of the reference's machines,3: going back,the stack,a step. A step of the reference's machine is what was said plainly. The reference: the engine. The reference's engine,said plainly: a new one,an entry,entries,stamped events. -/
import Derived.Test.YtjjbdbbmdhncjaaGreatSzal
import Derived.Test.YtjjbdbbmdhncjaaGreatSzak
set_option linter.all false
namespace Go.Proofs.YtjjbdbbmdhncjaaGreat
section
open Go
def apc (k:Int):Nat:=if k=25∨k=26 then 4 else if k=24 then 3 else if k=15∨k=17∨k=18∨k=22∨k=23 then 2 else if k=5∨k=6 then 1 else 0
theorem ark (k:Int):apc k≤4:=by
 unfold apc
 repeat' split
 all_goals omega
structure TopOk (c:Cfg) (f:FrV):Prop where
 run:f.kind=24→amn c f
 cl:f.kind=26→0≤f.i∧f.i≤(c.subs.length:Int)
 pr:f.kind=21→0≤f.i∧f.i≤c.workers
structure LiveOk (e:EnvV) (f:FrV):Prop where
 run:f.kind=24→f.l≠[]∧(f.line≠23→0≤abl f.l∧abl f.l<e.c.tasks)∧(f.line=3→ape e (abl f.l))
 cl:f.kind=26→0≤f.i∧f.i≤(e.c.subs.length:Int)
 pr:f.kind=21→0≤f.i∧f.i≤e.c.workers
structure ParOk (c:Cfg) (p ch:FrV):Prop where
 rk:apc ch.kind<apc p.kind
 run:p.kind=24→p.l≠[]∧(0≤abl p.l∧abl p.l<c.tasks)∧(p.line=5→ch.kind=12)∧p.line≠3∧p.line≠23
 cl:p.kind=26→0≤p.i∧p.i<(c.subs.length:Int)∧(p.line=3→ch.kind=12)
def PcP (e:EnvV) (p:FrV):Prop:=p.kind=24→p.line=5→ape e (abl p.l)
structure EnvOk (K:Nat) (e:EnvV):Prop where
 cf:CfgOk e.c
 rcs:ava K e.c e.recs
 evs:aC3 K e.evs
 now:Rg e.now
 draw:Rg e.draw
theorem EnvOk.le {K L:Nat} {e:EnvV} (h:EnvOk K e) (hl:K≤L):EnvOk L e:=⟨h.cf,h.rcs.le hl,h.evs.le hl,h.now,h.draw⟩
theorem EQ.ok {K:Nat} {e e':EnvV} (q:EQ K e e') (h:EnvOk K e):EnvOk (K+1) e':=⟨q.c▸h.cf,by rw [q.c]; exact q.rcs h.rcs,q.evs h.evs,q.now▸h.now,q.draw▸h.draw⟩
theorem EnvOk.fit {K:Nat} {e:EnvV} (h:EnvOk K e) (hK:K≤900000000):Fit e:=by have:=h.evs.1; unfold Fit; omega
structure LeafP (K:Nat) (e:EnvV) (f:FrV) (o:Lf):Prop where
 lf:LfP K e f o
 top:o.1.done=false→TopOk e.c o.2.2
 new:f.kind=12→o.1.done=true∧o.2.1.recs=e.recs∧(o.1.code=3∨(0≤o.1.value∧o.1.value<(e.recs.length:Int)))
section
variable {K:Nat} {e e':EnvV} {f:FrV}
theorem adA {c:Cfg} {g:FrV} (h1:g.kind≠24) (h2:g.kind≠26) (h3:g.kind≠21):TopOk c g:=⟨fun e =>absurd e h1,fun e =>absurd e h2,fun e =>absurd e h3⟩
theorem LeafP.of {o:Lf} (h:LfP K e f o) (h12:f.kind≠12) (h4:f.kind≠24) (h6:f.kind≠26) (h1:f.kind≠21):LeafP K e f o :=
 ⟨h,fun _ =>adA (by rw [h.kind]; exact h4) (by rw [h.kind]; exact h6) (by rw [h.kind]; exact h1),fun e =>absurd e h12⟩
theorem LiveOk.pre (hl:LiveOk e f) (h:FrR K f) (he:EnvOk K e) (hK:K≤900000000):LeafC e f:=⟨he.cf,he.fit hK,he.rcs.1,h.cap,fun hk =>by
  obtain ⟨h1,h2,h3⟩:=hl.run hk
  exact ⟨⟨h1,by have:=h.ln; omega⟩,fun e =>by have:=h2 e; have:=he.rcs.1; exact ⟨by omega,by omega⟩,h3⟩,fun hk =>(hl.cl hk).1,hl.pr⟩
theorem atd (h:FrR K f) (he:EnvOk K e) (hl:LiveOk e f):LeafP K e f (aeh e f):=by
 obtain ⟨ha_,hb_,hd_,hi_,hj_,hn_,ht_,hl_,hu_,hcap_,hln_⟩:=h.all
 have hn:=he.now
 unfold aeh
 by_cases k0:f.kind=0
 ·simp only [k0,if_true,if_false,Int.reduceEq]
  exact LeafP.of (ay8 h hn) (by rw [k0]; decide) (by rw [k0]; decide) (by rw [k0]; decide) (by rw [k0]; decide)
 by_cases k1:f.kind=1
 ·simp only [k1,if_true,if_false,Int.reduceEq]
  exact LeafP.of (aBO h hn) (by rw [k1]; decide) (by rw [k1]; decide) (by rw [k1]; decide) (by rw [k1]; decide)
 by_cases k2:f.kind=2
 ·simp only [k2,if_true,if_false,Int.reduceEq]
  exact LeafP.of (avq h hn) (by rw [k2]; decide) (by rw [k2]; decide) (by rw [k2]; decide) (by rw [k2]; decide)
 by_cases k3:f.kind=3
 ·simp only [k3,if_true,if_false,Int.reduceEq]
  refine LeafP.of ?_ (by rw [k3]; decide) (by rw [k3]; decide) (by rw [k3]; decide) (by rw [k3]; decide)
  (repeat' split)<;>exact ⟨by dsimp only [go,fin]; (constructor<;>(try dsimp only)<;>with_reducible first | assumption | exact aaP _ | exact aaH _ | exact aav _ | exact aam (by decide)),(by first | rfl | exact k3.symm),by dsimp only [go,fin]; (with_reducible first | assumption | exact aaP _ | exact aaH _ | exact aav _ | exact aam (by decide)),by dsimp only [go,fin]; (first | with_reducible exact EQ.of EP.refl | with_reducible exact EQ.of EP.refl.ac | (refine EQ.em (by first | with_reducible exact EP.refl | with_reducible exact EP.refl.ac) ?_ ?_ ?_ ?_ ?_<;>(with_reducible first | assumption | exact aaP _ | exact aaH _ | exact aav _ | exact aam (by decide))))⟩
 by_cases k4:f.kind=4
 ·simp only [k4,if_true,if_false,Int.reduceEq]
  exact LeafP.of (axP h hn) (by rw [k4]; decide) (by rw [k4]; decide) (by rw [k4]; decide) (by rw [k4]; decide)
 by_cases k6:f.kind=6
 ·simp only [k6,if_true,if_false,Int.reduceEq]
  refine LeafP.of ?_ (by rw [k6]; decide) (by rw [k6]; decide) (by rw [k6]; decide) (by rw [k6]; decide)
  (repeat' split)<;>exact ⟨by dsimp only [go,fin]; (constructor<;>(try dsimp only)<;>with_reducible first | assumption | exact aaP _ | exact aaH _ | exact aav _ | exact aam (by decide)),(by first | rfl | exact k6.symm),by dsimp only [go,fin]; (with_reducible first | assumption | exact aaP _ | exact aaH _ | exact aav _ | exact aam (by decide)),by dsimp only [go,fin]; (first | with_reducible exact EQ.of EP.refl | with_reducible exact EQ.of EP.refl.ac | (refine EQ.em (by first | with_reducible exact EP.refl | with_reducible exact EP.refl.ac) ?_ ?_ ?_ ?_ ?_<;>(with_reducible first | assumption | exact aaP _ | exact aaH _ | exact aav _ | exact aam (by decide))))⟩
 by_cases k7:f.kind=7
 ·simp only [k7,if_true,if_false,Int.reduceEq]
  refine LeafP.of ?_ (by rw [k7]; decide) (by rw [k7]; decide) (by rw [k7]; decide) (by rw [k7]; decide)
  (repeat' split)<;>exact ⟨by dsimp only [go,fin]; (constructor<;>(try dsimp only)<;>with_reducible first | assumption | exact aaP _ | exact aaH _ | exact aav _ | exact aam (by decide)),(by first | rfl | exact k7.symm),by dsimp only [go,fin]; (with_reducible first | assumption | exact aaP _ | exact aaH _ | exact aav _ | exact aam (by decide)),by dsimp only [go,fin]; (first | with_reducible exact EQ.of EP.refl | with_reducible exact EQ.of EP.refl.ac | (refine EQ.em (by first | with_reducible exact EP.refl | with_reducible exact EP.refl.ac) ?_ ?_ ?_ ?_ ?_<;>(with_reducible first | assumption | exact aaP _ | exact aaH _ | exact aav _ | exact aam (by decide))))⟩
 by_cases k8:f.kind=8
 ·simp only [k8,if_true,if_false,Int.reduceEq]
  refine LeafP.of ?_ (by rw [k8]; decide) (by rw [k8]; decide) (by rw [k8]; decide) (by rw [k8]; decide)
  (repeat' split)<;>exact ⟨by dsimp only [go,fin]; (constructor<;>(try dsimp only)<;>with_reducible first | assumption | exact aaP _ | exact aaH _ | exact aav _ | exact aam (by decide)),(by first | rfl | exact k8.symm),by dsimp only [go,fin]; (with_reducible first | assumption | exact aaP _ | exact aaH _ | exact aav _ | exact aam (by decide)),by dsimp only [go,fin]; (first | with_reducible exact EQ.of EP.refl | with_reducible exact EQ.of EP.refl.ac | (refine EQ.em (by first | with_reducible exact EP.refl | with_reducible exact EP.refl.ac) ?_ ?_ ?_ ?_ ?_<;>(with_reducible first | assumption | exact aaP _ | exact aaH _ | exact aav _ | exact aam (by decide))))⟩
 by_cases k9:f.kind=9
 ·simp only [k9,if_true,if_false,Int.reduceEq]
  refine LeafP.of ?_ (by rw [k9]; decide) (by rw [k9]; decide) (by rw [k9]; decide) (by rw [k9]; decide)
  (repeat' split)<;>exact ⟨by dsimp only [go,fin]; (constructor<;>(try dsimp only)<;>with_reducible first | assumption | exact aaP _ | exact aaH _ | exact aav _ | exact aam (by decide)),(by first | rfl | exact k9.symm),by dsimp only [go,fin]; (with_reducible first | assumption | exact aaP _ | exact aaH _ | exact aav _ | exact aam (by decide)),by dsimp only [go,fin]; (first | with_reducible exact EQ.of EP.refl | with_reducible exact EQ.of EP.refl.ac | (refine EQ.em (by first | with_reducible exact EP.refl | with_reducible exact EP.refl.ac) ?_ ?_ ?_ ?_ ?_<;>(with_reducible first | assumption | exact aaP _ | exact aaH _ | exact aav _ | exact aam (by decide))))⟩
 by_cases k10:f.kind=10
 ·simp only [k10,if_true,if_false,Int.reduceEq]
  exact LeafP.of (auG h hn) (by rw [k10]; decide) (by rw [k10]; decide) (by rw [k10]; decide) (by rw [k10]; decide)
 by_cases k11:f.kind=11
 ·simp only [k11,if_true,if_false,Int.reduceEq]
  exact LeafP.of (at6 h hn) (by rw [k11]; decide) (by rw [k11]; decide) (by rw [k11]; decide) (by rw [k11]; decide)
 by_cases k12:f.kind=12
 ·simp only [k12,if_true,if_false,Int.reduceEq]
  obtain ⟨a1,a2,a3,a4⟩:=ayd (e:=e) h
  exact ⟨a1,fun e =>(by rw [a2] at e; cases e),fun _ =>⟨a2,a3,a4.imp id fun t =>⟨t.1,t.2.2⟩⟩⟩
 by_cases k13:f.kind=13
 ·simp only [k13,if_true,if_false,Int.reduceEq]
  exact LeafP.of (arC h hn) (by rw [k13]; decide) (by rw [k13]; decide) (by rw [k13]; decide) (by rw [k13]; decide)
 by_cases k14:f.kind=14
 ·simp only [k14,if_true,if_false,Int.reduceEq]
  exact LeafP.of (axR h) (by rw [k14]; decide) (by rw [k14]; decide) (by rw [k14]; decide) (by rw [k14]; decide)
 by_cases k15:f.kind=15
 ·simp only [k15,if_true,if_false,Int.reduceEq]
  exact LeafP.of (auS h hn) (by rw [k15]; decide) (by rw [k15]; decide) (by rw [k15]; decide) (by rw [k15]; decide)
 by_cases k16:f.kind=16
 ·simp only [k16,if_true,if_false,Int.reduceEq]
  exact LeafP.of (avW h hn) (by rw [k16]; decide) (by rw [k16]; decide) (by rw [k16]; decide) (by rw [k16]; decide)
 by_cases k17:f.kind=17
 ·simp only [k17,if_true,if_false,Int.reduceEq]
  exact LeafP.of (aym h hn) (by rw [k17]; decide) (by rw [k17]; decide) (by rw [k17]; decide) (by rw [k17]; decide)
 by_cases k18:f.kind=18
 ·simp only [k18,if_true,if_false,Int.reduceEq]
  exact LeafP.of (avj h hn) (by rw [k18]; decide) (by rw [k18]; decide) (by rw [k18]; decide) (by rw [k18]; decide)
 by_cases k19:f.kind=19
 ·simp only [k19,if_true,if_false,Int.reduceEq]
  exact LeafP.of (avv h hn) (by rw [k19]; decide) (by rw [k19]; decide) (by rw [k19]; decide) (by rw [k19]; decide)
 by_cases k20:f.kind=20
 ·simp only [k20,if_true,if_false,Int.reduceEq]
  exact LeafP.of (ayn h hn) (by rw [k20]; decide) (by rw [k20]; decide) (by rw [k20]; decide) (by rw [k20]; decide)
 by_cases k21:f.kind=21
 ·simp only [k21,if_true,if_false,Int.reduceEq]
  obtain ⟨a1,a2⟩:=awn h he.cf he.draw (hl.pr k21)
  exact ⟨a1,fun e =>⟨fun e' =>(by rw [a1.kind,k21] at e'; cases e'),fun e' =>(by rw [a1.kind,k21] at e'; cases e'),fun _ =>a2 e⟩,fun e =>(by rw [k21] at e; cases e)⟩
 by_cases k22:f.kind=22
 ·simp only [k22,if_true,if_false,Int.reduceEq]
  exact LeafP.of (axD h hn) (by rw [k22]; decide) (by rw [k22]; decide) (by rw [k22]; decide) (by rw [k22]; decide)
 by_cases k24:f.kind=24
 ·simp only [k24,if_true,if_false,Int.reduceEq]
  obtain ⟨r1,r2,r3⟩:=hl.run k24
  obtain ⟨a1,a2⟩:=aBv h r1 r2
  exact ⟨a1,fun e =>⟨fun _ =>a2 e,fun e' =>(by rw [a1.kind,k24] at e'; cases e'),fun e' =>by rw [a1.kind,k24] at e'; cases e'⟩,fun e =>by rw [k24] at e; cases e⟩
 by_cases k26:f.kind=26
 ·simp only [k26,if_true,if_false,Int.reduceEq]
  obtain ⟨a1,a2⟩:=auX h he.cf (hl.cl k26)
  exact ⟨a1,fun _ =>⟨fun e' =>(by rw [a1.kind,k26] at e'; cases e'),fun _ =>by rw [a2]; exact hl.cl k26,fun e' =>by rw [a1.kind,k26] at e'; cases e'⟩,fun e =>by rw [k26] at e; cases e⟩
 simp only [k0,k1,k2,k3,k4,k6,k7,k8,k9,k10,k11,k12,k13,k14,k15,k16,k17,k18,k19,k20,k21,k22,k24,k26,if_false]
 exact LeafP.of ⟨h.up,rfl,rg0,EQ.of EP.refl⟩ k12 k24 k26 k21
theorem acq {c:Cfg} (hc:CfgOk c) (w l:Int):(ajj c w l).cap≤9223372036854775807:=by
 have:=hc.q2
 unfold ajj
 repeat' split
 all_goals first | decide | (show c.deque≤_; omega)
theorem acu {c:Cfg} (w:Int):Rg (acb c w):=by
 unfold acb ixA
 repeat' split
 all_goals first | exact aam (by decide) | exact aaP _
structure EntP (K:Nat) (e:EnvV) (f:FrV) (o:Option FrV×FrV):Prop where
 fr:FrR K o.2
 kind:o.2.kind=f.kind
 no:o.1=none→LiveOk e o.2
 yes:∀ ch,o.1=some ch→FrR K { ch with line:=1 }∧TopOk e.c { ch with line:=1 }∧ParOk e.c o.2 ch∧PcP e o.2
theorem EntP.stop {f':FrV} (h:FrR K f') (hk:f'.kind=f.kind) (hl:LiveOk e f'):EntP K e f (none,f'):=⟨h,hk,fun _ =>hl,fun _ e =>by cases e⟩
theorem EntP.go {f' ch:FrV} (h:FrR K f') (hk:f'.kind=f.kind) (h1:FrR K { ch with line:=1 }) (h2:TopOk e.c { ch with line:=1 }) (h3:ParOk e.c f' ch) (h4:PcP e f'):EntP K e f (some ch,f'):=⟨h,hk,fun e =>(by cases e),fun _ e =>by cases e; exact ⟨h1,h2,h3,h4⟩⟩
theorem EntP.plain {f' ch:FrV} (h:FrR K f') (hk:f'.kind=f.kind) (h1:FrR K { ch with line:=1 }) (n4:f.kind≠24) (n6:f.kind≠26) (h2:TopOk e.c { ch with line:=1 }) (hr:apc ch.kind<apc f.kind):EntP K e f (some ch,f') :=
 EntP.go h hk h1 h2 ⟨by rw [hk]; exact hr,fun e =>absurd (hk.symm.trans e) n4,fun e =>absurd (hk.symm.trans e) n6⟩ fun e =>absurd (hk.symm.trans e) n4
theorem aj3 (n4:f.kind≠24) (n6:f.kind≠26) (n1:f.kind≠21):LiveOk e f:=⟨fun e =>absurd e n4,fun e =>absurd e n6,fun e =>absurd e n1⟩
structure ChP (K:Nat) (e:EnvV) (f g:FrV):Prop where
 fr:FrR K g
 kind:g.kind=f.kind
 ne:g.l≠[]
 top:g.line≠23→0≤abl g.l∧abl g.l<e.c.tasks
 pc:g.line=3∨g.line=5→ape e (abl g.l)
theorem auY (h:FrR K f) (he:EnvOk K e) (ht:amn e.c f):ChP K e f (aez e f):=by
 obtain ⟨ha_,hb_,hd_,hi_,hj_,hn_,ht_,hl_,hu_,hcap_,hln_⟩:=h.all
 obtain ⟨hl,h3,h5,h23,htop⟩:=ht
 have hc:=he.cf
 unfold aez
 by_cases l1:f.line≠1
 ·rw [if_pos l1]; exact ⟨h,rfl,hl,fun _ =>htop l1,fun e =>by omega⟩
 rw [if_neg l1]
 by_cases hT:¬ acE e (abl f.l)
 ·rw [if_pos hT]
  exact ⟨by (constructor<;>(try dsimp only [frK])<;>first | with_reducible assumption | with_reducible exact aaP _ | exact aam (by decide) | exact Nat.zero_le _ | exact acq hc _ _ | exact acu _ | (intro x hx; cases hx; done) | decide),rfl,hl,fun e =>absurd rfl e,fun e =>by rcases e with e | e<;>cases e⟩
 rw [if_neg hT]
 have hT:acE e (abl f.l):=by simpa using hT
 have hT2:0≤abl f.l∧abl f.l<e.c.tasks:=⟨hT.1,hT.2.1⟩
 have mk:∀ n:Int,n≠3→n≠5→ChP K e f { f with line:=n }:=fun n h3 h5 =>⟨by (constructor<;>(try dsimp only [frK])<;>first | with_reducible assumption | with_reducible exact aaP _ | exact aam (by decide) | exact Nat.zero_le _ | exact acq hc _ _ | exact acu _ | (intro x hx; cases hx; done) | decide),rfl,hl,fun _ =>hT2,fun e =>by rcases e with e | e<;>first | exact absurd e h3 | exact absurd e h5⟩
 by_cases hw:(e.rc (abl f.l)).waiting ≠ -1
 ·rw [if_pos hw]; exact mk 2 (by decide) (by decide)
 rw [if_neg hw]
 by_cases hpc:(e.rc (abl f.l)).pc<0∨((e.prog (abl f.l)).length:Int)≤(e.rc (abl f.l)).pc
 ·rw [if_pos hpc]; exact mk 17 (by decide) (by decide)
 rw [if_neg hpc]
 have hP:ape e (abl f.l):=by
  refine ⟨?_,by omega,by omega⟩
  by_cases hp:(e.rc (abl f.l)).prog<0∨(e.c.progs.length:Int)≤(e.rc (abl f.l)).prog
  ·exfalso
   have e0:e.prog (abl f.l)=[]:=by unfold EnvV.prog; rw [if_pos hp]
   rw [e0] at hpc
   simp at hpc
   omega
  ·omega
 have mk2:∀ n:Int,ChP K e f { f with line:=n }:=fun n =>⟨by (constructor<;>(try dsimp only [frK])<;>first | with_reducible assumption | with_reducible exact aaP _ | exact aam (by decide) | exact Nat.zero_le _ | exact acq hc _ _ | exact acu _ | (intro x hx; cases hx; done) | decide),rfl,hl,fun _ =>hT2,fun _ =>hP⟩
 split
 ·exact mk2 3
 split
 ·exact mk2 5
 split
 ·rename_i o0 o1 hk
  have ha:=aD3 hc hP o0 o1
  have hj:Rg (au9 (e.rc (abl f.l)).kids (e.ins (abl f.l)).a):=(avV he.rcs (abl f.l)).2 _ (au2 ⟨ha,hk.1⟩)
  exact ⟨by (constructor<;>(try dsimp only [frK])<;>first | with_reducible assumption | with_reducible exact aaP _ | exact aam (by decide) | exact Nat.zero_le _ | exact acq hc _ _ | exact acu _ | (intro x hx; cases hx; done) | decide),rfl,hl,fun _ =>hT2,fun _ =>hP⟩
 ·exact mk 4 (by decide) (by decide)
theorem ayK {g:FrV} (hg:ChP K e f g) (hk:f.kind=24):EntP K e f (aAu g,g):=by
  have h:=hg.fr
  obtain ⟨ha_,hb_,hd_,hi_,hj_,hn_,ht_,hl_,hu_,hcap_,hln_⟩:=h.all
  have hgk:g.kind=24:=hg.kind.trans hk
  have hp:∀ ch:FrV,g.line≠23→g.line≠3→apc ch.kind<3→(g.line=5→ch.kind=12)→ParOk e.c g ch:=fun ch h1 h4 h2 h3 =>⟨by rw [hgk]; exact h2,fun _ =>⟨hg.ne,hg.top h1,h3,h4,h1⟩,fun e =>by rw [hgk] at e; cases e⟩
  have hq:PcP e g:=fun _ e =>hg.pc (.inr e)
  have hno:LiveOk e g:=⟨fun _ =>⟨hg.ne,hg.top,fun e =>hg.pc (.inl e)⟩,fun e =>(by rw [hgk] at e; cases e),fun e =>by rw [hgk] at e; cases e⟩
  have hc:CfgOk e.c→True:=fun _ =>trivial
  unfold aAu
  repeat' split
  all_goals first
    | exact EntP.stop h hg.kind hno
    | (refine EntP.go h hg.kind ?_ (adA (by dsimp only [frK]; decide) (by dsimp only [frK]; decide) (by dsimp only [frK]; decide)) (hp _ (by omega) (by omega) (by dsimp only [frK]; decide) ?_) hq
       · (constructor<;>(try dsimp only [frK])<;>first | with_reducible assumption | exact aam (by decide) | exact Nat.zero_le _ | (intro x hx; cases hx; done) | decide)
       · first | (intro _; rfl) | (intro e; omega))
theorem aqy (h:FrR K f) (he:EnvOk K e) (ht:TopOk e.c f) (hK1:1≤K):EntP K e f (ag1 e f):=by
 obtain ⟨ha_,hb_,hd_,hi_,hj_,hn_,ht_,hl_,hu_,hcap_,hln_⟩:=h.all
 have hc:=he.cf
 have w1:=hc.w1
 have w2:=hc.w2
 unfold ag1
 by_cases k5:f.kind=5
 ·simp only [k5,if_true,if_false,Int.reduceEq]
  split<;>exact EntP.plain h rfl (by (constructor<;>(try dsimp only [frK])<;>first | with_reducible assumption | with_reducible exact aaP _ | exact aam (by decide) | exact Nat.zero_le _ | exact acq hc _ _ | exact acu _ | (intro x hx; cases hx; done) | decide)) (by rw [k5]; decide) (by rw [k5]; decide) (adA (by dsimp only [frK]; decide) (by dsimp only [frK]; decide) (by dsimp only [frK]; decide)) (by rw [k5]; dsimp only [frK]; decide)
 by_cases k6:f.kind=6
 ·simp only [k6,if_true,if_false,Int.reduceEq]
  (repeat' split)<;>first | exact EntP.plain h rfl (by (constructor<;>(try dsimp only [frK])<;>first | with_reducible assumption | with_reducible exact aaP _ | exact aam (by decide) | exact Nat.zero_le _ | exact acq hc _ _ | exact acu _ | (intro x hx; cases hx; done) | decide)) (by rw [k6]; decide) (by rw [k6]; decide) (adA (by dsimp only [frK]; decide) (by dsimp only [frK]; decide) (by dsimp only [frK]; decide)) (by rw [k6]; dsimp only [frK]; decide) | exact EntP.stop h rfl (aj3 (by rw [k6]; decide) (by rw [k6]; decide) (by rw [k6]; decide))
 by_cases k15:f.kind=15
 ·simp only [k15,if_true,if_false,Int.reduceEq]
  (repeat' split)<;>first | exact EntP.plain h rfl (by (constructor<;>(try dsimp only [frK])<;>first | with_reducible assumption | with_reducible exact aaP _ | exact aam (by decide) | exact Nat.zero_le _ | exact acq hc _ _ | exact acu _ | (intro x hx; cases hx; done) | decide)) (by rw [k15]; decide) (by rw [k15]; decide) (adA (by dsimp only [frK]; decide) (by dsimp only [frK]; decide) (by dsimp only [frK]; decide)) (by rw [k15]; dsimp only [frK]; decide) | exact EntP.stop h rfl (aj3 (by rw [k15]; decide) (by rw [k15]; decide) (by rw [k15]; decide))
 by_cases k17:f.kind=17
 ·simp only [k17,if_true,if_false,Int.reduceEq]
  (repeat' split)<;>first | exact EntP.plain h rfl (by (constructor<;>(try dsimp only [frK])<;>first | with_reducible assumption | with_reducible exact aaP _ | exact aam (by decide) | exact Nat.zero_le _ | exact acq hc _ _ | exact acu _ | (intro x hx; cases hx; done) | decide)) (by rw [k17]; decide) (by rw [k17]; decide) (adA (by dsimp only [frK]; decide) (by dsimp only [frK]; decide) (by dsimp only [frK]; decide)) (by rw [k17]; dsimp only [frK]; decide) | exact EntP.stop h rfl (aj3 (by rw [k17]; decide) (by rw [k17]; decide) (by rw [k17]; decide))
 by_cases k18:f.kind=18
 ·simp only [k18,if_true,if_false,Int.reduceEq]
  (repeat' split)<;>first | exact EntP.plain h rfl (by (constructor<;>(try dsimp only [frK])<;>first | with_reducible assumption | with_reducible exact aaP _ | exact aam (by decide) | exact Nat.zero_le _ | exact acq hc _ _ | exact acu _ | (intro x hx; cases hx; done) | decide)) (by rw [k18]; decide) (by rw [k18]; decide) (adA (by dsimp only [frK]; decide) (by dsimp only [frK]; decide) (by dsimp only [frK]; decide)) (by rw [k18]; dsimp only [frK]; decide) | exact EntP.stop h rfl (aj3 (by rw [k18]; decide) (by rw [k18]; decide) (by rw [k18]; decide))
 by_cases k22:f.kind=22
 ·simp only [k22,if_true,if_false,Int.reduceEq]
  unfold amb
  (repeat' split)<;>first | exact EntP.plain h rfl (by (constructor<;>(try dsimp only [frK])<;>first | with_reducible assumption | with_reducible exact aaP _ | exact aam (by decide) | exact Nat.zero_le _ | exact acq hc _ _ | exact acu _ | (intro x hx; cases hx; done) | decide)) (by rw [k22]; decide) (by rw [k22]; decide) (adA (by dsimp only [frK]; decide) (by dsimp only [frK]; decide) (by dsimp only [frK]; decide)) (by rw [k22]; dsimp only [frK]; decide) | exact EntP.stop h rfl (aj3 (by rw [k22]; decide) (by rw [k22]; decide) (by rw [k22]; decide))
 by_cases k23:f.kind=23
 ·simp only [k23,if_true,if_false,Int.reduceEq]
  (repeat' split)<;>exact EntP.plain h rfl (by (constructor<;>(try dsimp only [frK])<;>first | with_reducible assumption | with_reducible exact aaP _ | exact aam (by decide) | exact Nat.zero_le _ | exact acq hc _ _ | exact acu _ | (intro x hx; cases hx; done) | decide)) (by rw [k23]; decide) (by rw [k23]; decide) (adA (by dsimp only [frK]; decide) (by dsimp only [frK]; decide) (by dsimp only [frK]; decide)) (by rw [k23]; dsimp only [frK]; decide)
 by_cases k24:f.kind=24
 ·simp only [k24,if_true,if_false,Int.reduceEq]
  exact ayK (auY h he (ht.run k24)) k24
 by_cases k25:f.kind=25
 ·simp only [k25,if_true,if_false,Int.reduceEq]
  have hb:FrR K (afj e f)∧(afj e f).kind=f.kind:=by
   unfold afj; split
   ·exact ⟨by (constructor<;>(try dsimp only [frK])<;>first | with_reducible assumption | with_reducible exact aaP _ | exact aam (by decide) | exact Nat.zero_le _ | exact acq hc _ _ | exact acu _ | (intro x hx; cases hx; done) | decide),rfl⟩
   ·exact ⟨h,rfl⟩
  have hk:=hb.2
  generalize afj e f=g at hb hk
  have h:=hb.1
  obtain ⟨ha_,hb_,hd_,hi_,hj_,hn_,ht_,hl_,hu_,hcap_,hln_⟩:=h.all
  unfold ajN
  have hl:∀ x∈[g.n],Rg x:=fun x hx =>by rw [List.mem_singleton] at hx; subst hx; exact h.n
  have hl1:[g.n].length≤K:=hK1
  by_cases l4:g.line=4
  ·simp only [l4,if_true,if_false,Int.reduceEq]
   exact EntP.plain h hk (by (constructor<;>(try dsimp only [frK])<;>first | with_reducible assumption | with_reducible exact aaP _ | exact aam (by decide) | exact Nat.zero_le _ | exact acq hc _ _ | exact acu _ | (intro x hx; cases hx; done) | decide)) (by rw [k25]; decide) (by rw [k25]; decide) ⟨fun e =>(by cases e),fun e =>(by cases e),fun _ =>⟨Int.le_refl 0,(by show (0:Int)≤e.c.workers; omega)⟩⟩ (by rw [k25]; dsimp only [frK]; decide)
  by_cases l7:g.line=7
  ·simp only [l7,if_true,if_false,Int.reduceEq]
   exact EntP.plain h hk (by (constructor<;>(try dsimp only [frK])<;>first | with_reducible assumption | with_reducible exact aaP _ | exact aam (by decide) | exact Nat.zero_le _ | exact acq hc _ _ | exact acu _ | (intro x hx; cases hx; done) | decide)) (by rw [k25]; decide) (by rw [k25]; decide) ⟨fun _ =>⟨by simp,by simp,by simp,by simp,fun e =>absurd rfl e⟩,fun e =>(by cases e),fun e =>by cases e⟩ (by rw [k25]; dsimp only [frK]; decide)
  simp only [if_neg l4,if_neg l7]
  (repeat' split)<;>exact EntP.plain h hk (by (constructor<;>(try dsimp only [frK])<;>first | with_reducible assumption | with_reducible exact aaP _ | exact aam (by decide) | exact Nat.zero_le _ | exact acq hc _ _ | exact acu _ | (intro x hx; cases hx; done) | decide)) (by rw [k25]; decide) (by rw [k25]; decide) (adA (by dsimp only [frK]; decide) (by dsimp only [frK]; decide) (by dsimp only [frK]; decide)) (by rw [k25]; dsimp only [frK]; decide)
 by_cases k26:f.kind=26
 ·simp only [k26,if_true,if_false,Int.reduceEq]
  have hi:=ht.cl k26
  have hno:LiveOk e f:=⟨fun e =>(by rw [k26] at e; cases e),fun _ =>hi,fun e =>by rw [k26] at e; cases e⟩
  unfold aiK
  by_cases hs:(e.c.subs.length:Int)≤f.i
  ·rw [if_pos hs]; exact EntP.stop h rfl hno
  rw [if_neg hs]
  have hsub:=hc.sub _ (au2 (d:=dfR 4) (xs:=e.c.subs) (i:=f.i) ⟨hi.1,Int.not_le.1 hs⟩)
  have hs1:Rg (e.sub f.i).level:=hsub.1
  have hs2:Rg (e.sub f.i).deadline:=hsub.2.1
  have hw:Rg e.c.workers:=aam (by omega)
  have hp:∀ g:FrV,apc g.kind<4→(f.line=3→g.kind=12)→ParOk e.c f g:=fun g h1 h3 =>⟨by rw [k26]; exact h1,fun e =>(by rw [k26] at e; cases e),fun _ =>⟨hi.1,by omega,h3⟩⟩
  have hq:PcP e f:=fun e =>by rw [k26] at e; cases e
  (repeat' split)<;>first
   | exact EntP.stop h rfl hno
   | exact EntP.go h rfl (by (constructor<;>(try dsimp only [frK])<;>first | with_reducible assumption | with_reducible exact aaP _ | exact aam (by decide) | exact Nat.zero_le _ | exact acq hc _ _ | exact acu _ | (intro x hx; cases hx; done) | decide)) (adA (by dsimp only [frK]; decide) (by dsimp only [frK]; decide) (by dsimp only [frK]; decide)) (hp _ (by dsimp only [frK]; decide) (by first | (intro _; rfl) | (intro e; omega))) hq
 by_cases k21:f.kind=21
 ·simp only [k21,if_false,Int.reduceEq]
  exact EntP.stop h rfl ⟨fun e =>(by rw [k21] at e; cases e),fun e =>(by rw [k21] at e; cases e),ht.pr⟩
 simp only [k5,k6,k15,k17,k18,k22,k23,k24,k25,k26,if_false]
 exact EntP.stop h rfl (aj3 k24 k26 k21)
end
structure BackP (K:Nat) (e:EnvV) (f:FrV) (o:Lf):Prop where
 lf:LfP K e f o
 top:o.1.done=false→TopOk e.c o.2.2
section
variable {K:Nat} {e e':EnvV} {f:FrV} {code value:Int}
theorem BackP.of {o:Lf} (h:LfP K e f o) (h4:f.kind≠24) (h6:f.kind≠26) (h1:f.kind≠21):BackP K e f o :=
 ⟨h,fun _ =>adA (by rw [h.kind]; exact h4) (by rw [h.kind]; exact h6) (by rw [h.kind]; exact h1)⟩
theorem avd (h:FrR K f):LfP K e f (atR e f code):=by
 obtain ⟨ha_,hb_,hd_,hi_,hj_,hn_,ht_,hl_,hu_,hcap_,hln_⟩:=h.all
 unfold atR
 (repeat' split)<;>(refine ⟨?_,rfl,?_,?_⟩<;>(try dsimp only [go,fin])<;>first | (with_reducible first | assumption | exact aaP _ | exact aaH _ | exact aav _ | exact aam (by decide)) | exact EQ.of EP.refl | exact EQ.of EP.refl.ac | ((first | refine EQ.em EP.refl ?_ ?_ ?_ ?_ ?_ | refine EQ.em EP.refl.ac ?_ ?_ ?_ ?_ ?_ | constructor)<;>(try dsimp only)<;>with_reducible first | assumption | exact aaP _ | exact aaH _ | exact aav _ | exact aam (by decide)))
theorem auU (h:FrR K f) (hv:Rg value):LfP K e f (anB e f code value):=by
 obtain ⟨ha_,hb_,hd_,hi_,hj_,hn_,ht_,hl_,hu_,hcap_,hln_⟩:=h.all
 unfold anB
 (repeat' split)<;>(refine ⟨?_,rfl,?_,?_⟩<;>(try dsimp only [go,fin])<;>first | (with_reducible first | assumption | exact aaP _ | exact aaH _ | exact aav _ | exact aam (by decide)) | exact EQ.of EP.refl | exact EQ.of EP.refl.ac | ((first | refine EQ.em EP.refl ?_ ?_ ?_ ?_ ?_ | refine EQ.em EP.refl.ac ?_ ?_ ?_ ?_ ?_ | constructor)<;>(try dsimp only)<;>with_reducible first | assumption | exact aaP _ | exact aaH _ | exact aav _ | exact aam (by decide)))
theorem atU (h:FrR K f) (hv:Rg value):LfP K e f (amJ e f code value):=by
 obtain ⟨ha_,hb_,hd_,hi_,hj_,hn_,ht_,hl_,hu_,hcap_,hln_⟩:=h.all
 unfold amJ
 (repeat' split)<;>(refine ⟨?_,rfl,?_,?_⟩<;>(try dsimp only [go,fin])<;>first | (with_reducible first | assumption | exact aaP _ | exact aaH _ | exact aav _ | exact aam (by decide)) | exact EQ.of EP.refl | exact EQ.of EP.refl.ac | ((first | refine EQ.em EP.refl ?_ ?_ ?_ ?_ ?_ | refine EQ.em EP.refl.ac ?_ ?_ ?_ ?_ ?_ | constructor)<;>(try dsimp only)<;>with_reducible first | assumption | exact aaP _ | exact aaH _ | exact aav _ | exact aam (by decide)))
theorem apg (h:FrR K f) (hv:Rg value) (hc:CfgOk e.c):LfP K e f (ahL e f code value):=by
 obtain ⟨ha_,hb_,hd_,hi_,hj_,hn_,ht_,hl_,hu_,hcap_,hln_⟩:=h.all
 have t2:=hc.t2
 have h1:Rg (Int.tmod (wi (f.j+1)) (if 1<e.c.tasks then e.c.tasks else 1)):=anK (by split<;>omega) (by split<;>omega)
 have h2:Rg (Int.tmod value 64):=anK (by decide) (by decide)
 unfold ahL
 by_cases l1:f.line=1
 ·rw [if_pos l1]; (refine ⟨?_,rfl,?_,?_⟩<;>(try dsimp only [go,fin])<;>first | (with_reducible first | assumption | exact aaP _ | exact aaH _ | exact aav _ | exact aam (by decide)) | exact EQ.of EP.refl | exact EQ.of EP.refl.ac | ((first | refine EQ.em EP.refl ?_ ?_ ?_ ?_ ?_ | refine EQ.em EP.refl.ac ?_ ?_ ?_ ?_ ?_ | constructor)<;>(try dsimp only)<;>with_reducible first | assumption | exact aaP _ | exact aaH _ | exact aav _ | exact aam (by decide)))
 rw [if_neg l1]
 (repeat' split)<;>(refine ⟨?_,rfl,?_,?_⟩<;>(try dsimp only [go,fin])<;>first | (with_reducible first | assumption | exact aaP _ | exact aaH _ | exact aav _ | exact aam (by decide)) | exact EQ.of EP.refl | exact EQ.of EP.refl.ac | ((first | refine EQ.em EP.refl ?_ ?_ ?_ ?_ ?_ | refine EQ.em EP.refl.ac ?_ ?_ ?_ ?_ ?_ | constructor)<;>(try dsimp only)<;>with_reducible first | assumption | exact aaP _ | exact aaH _ | exact aav _ | exact aam (by decide)))
theorem ad7 {o:Lf} (hk:f.kind=26) (h:LfP K e f o) (hi:o.1.done=false→0≤o.2.2.i∧o.2.2.i≤(e.c.subs.length:Int)):BackP K e f o :=
 ⟨h,fun d =>⟨fun e' =>(by rw [h.kind,hk] at e'; cases e'),fun _ =>hi d,fun e' =>by rw [h.kind,hk] at e'; cases e'⟩⟩
theorem anw (h:FrR K f) (hk:f.kind=26) (hi:0≤f.i∧f.i<(e.c.subs.length:Int)) (hc:CfgOk e.c):BackP K e f (aiG e f):=by
 obtain ⟨ha_,hb_,hd_,hi_,hj_,hn_,ht_,hl_,hu_,hcap_,hln_⟩:=h.all
 have hsl:=hc.sl
 have e1:wi (f.i+1)=f.i+1:=acH (aam (by omega))
 unfold aiG
 rw [e1]
 have hr:Rg (f.i+1):=aam (by omega)
 split
 ·exact ad7 hk (by (refine ⟨?_,rfl,?_,?_⟩<;>(try dsimp only [go,fin])<;>first | (with_reducible first | assumption | exact aaP _ | exact aaH _ | exact aav _ | exact aam (by decide)) | exact EQ.of EP.refl | exact EQ.of EP.refl.ac | ((first | refine EQ.em EP.refl ?_ ?_ ?_ ?_ ?_ | refine EQ.em EP.refl.ac ?_ ?_ ?_ ?_ ?_ | constructor)<;>(try dsimp only)<;>with_reducible first | assumption | exact aaP _ | exact aaH _ | exact aav _ | exact aam (by decide)))) fun d =>by cases d
 ·exact ad7 hk (by (refine ⟨?_,rfl,?_,?_⟩<;>(try dsimp only [go,fin])<;>first | (with_reducible first | assumption | exact aaP _ | exact aaH _ | exact aav _ | exact aam (by decide)) | exact EQ.of EP.refl | exact EQ.of EP.refl.ac | ((first | refine EQ.em EP.refl ?_ ?_ ?_ ?_ ?_ | refine EQ.em EP.refl.ac ?_ ?_ ?_ ?_ ?_ | constructor)<;>(try dsimp only)<;>with_reducible first | assumption | exact aaP _ | exact aaH _ | exact aav _ | exact aam (by decide)))) fun _ =>by dsimp only [go]; omega
theorem asf {ch:FrV} (h:FrR K f) (he:EnvOk K e) (hv:Rg value) (hk:f.kind=26) (hp:ParOk e.c f ch) (h12:ch.kind=12→code=3∨(0≤value∧value<(e.recs.length:Int))):BackP K e f (aj9 e f code value):=by
 obtain ⟨ha_,hb_,hd_,hi_,hj_,hn_,ht_,hl_,hu_,hcap_,hln_⟩:=h.all
 have hc:=he.cf
 have w1:=hc.w1
 have w2:=hc.w2
 have hw:Rg e.c.workers:=aam (by omega)
 obtain ⟨i1,i2,i3⟩:=hp.cl hk
 have hsub:=hc.sub _ (au2 (d:=dfR 4) (xs:=e.c.subs) (i:=f.i) ⟨i1,i2⟩)
 have hs1:Rg (e.sub f.i).level:=hsub.1
 have hi2:f.i≤(e.c.subs.length:Int):=Int.le_of_lt i2
 unfold aj9
 by_cases l1:f.line=1
 ·rw [if_pos l1]; exact ad7 hk (by (refine ⟨?_,rfl,?_,?_⟩<;>(try dsimp only [go,fin])<;>first | (with_reducible first | assumption | exact aaP _ | exact aaH _ | exact aav _ | exact aam (by decide)) | exact EQ.of EP.refl | exact EQ.of EP.refl.ac | ((first | refine EQ.em EP.refl ?_ ?_ ?_ ?_ ?_ | refine EQ.em EP.refl.ac ?_ ?_ ?_ ?_ ?_ | constructor)<;>(try dsimp only)<;>with_reducible first | assumption | exact aaP _ | exact aaH _ | exact aav _ | exact aam (by decide)))) fun _ =>⟨i1,hi2⟩
 rw [if_neg l1]
 by_cases l3:f.line=3
 ·rw [if_pos l3]
  split
  ·exact ad7 hk (by (refine ⟨?_,rfl,?_,?_⟩<;>(try dsimp only [go,fin])<;>first | (with_reducible first | assumption | exact aaP _ | exact aaH _ | exact aav _ | exact aam (by decide)) | exact EQ.of EP.refl | exact EQ.of EP.refl.ac | ((first | refine EQ.em EP.refl ?_ ?_ ?_ ?_ ?_ | refine EQ.em EP.refl.ac ?_ ?_ ?_ ?_ ?_ | constructor)<;>(try dsimp only)<;>with_reducible first | assumption | exact aaP _ | exact aaH _ | exact aav _ | exact aam (by decide)))) fun _ =>⟨i1,hi2⟩
  ·exact ad7 hk ⟨by dsimp only [go]; (constructor<;>(try dsimp only)<;>with_reducible first | assumption | exact aaP _ | exact aaH _ | exact aav _ | exact aam (by decide)),rfl,rg0,EQ.of (EP.refl.put fun _ =>⟨Nat.zero_le _,fun x hx =>by cases hx⟩)⟩ fun _ =>⟨i1,hi2⟩
 rw [if_neg l3]
 by_cases l6:f.line=6
 ·rw [if_pos l6]
  split
  ·exact ad7 hk (by (refine ⟨?_,rfl,?_,?_⟩<;>(try dsimp only [go,fin])<;>first | (with_reducible first | assumption | exact aaP _ | exact aaH _ | exact aav _ | exact aam (by decide)) | exact EQ.of EP.refl | exact EQ.of EP.refl.ac | ((first | refine EQ.em EP.refl ?_ ?_ ?_ ?_ ?_ | refine EQ.em EP.refl.ac ?_ ?_ ?_ ?_ ?_ | constructor)<;>(try dsimp only)<;>with_reducible first | assumption | exact aaP _ | exact aaH _ | exact aav _ | exact aam (by decide)))) fun _ =>⟨i1,hi2⟩
  ·exact ad7 hk (by (refine ⟨?_,rfl,?_,?_⟩<;>(try dsimp only [go,fin])<;>first | (with_reducible first | assumption | exact aaP _ | exact aaH _ | exact aav _ | exact aam (by decide)) | exact EQ.of EP.refl | exact EQ.of EP.refl.ac | ((first | refine EQ.em EP.refl ?_ ?_ ?_ ?_ ?_ | refine EQ.em EP.refl.ac ?_ ?_ ?_ ?_ ?_ | constructor)<;>(try dsimp only)<;>with_reducible first | assumption | exact aaP _ | exact aaH _ | exact aav _ | exact aam (by decide)))) fun _ =>⟨i1,hi2⟩
 rw [if_neg l6]
 split
 ·split
  ·exact ad7 hk (by (refine ⟨?_,rfl,?_,?_⟩<;>(try dsimp only [go,fin])<;>first | (with_reducible first | assumption | exact aaP _ | exact aaH _ | exact aav _ | exact aam (by decide)) | exact EQ.of EP.refl | exact EQ.of EP.refl.ac | ((first | refine EQ.em EP.refl ?_ ?_ ?_ ?_ ?_ | refine EQ.em EP.refl.ac ?_ ?_ ?_ ?_ ?_ | constructor)<;>(try dsimp only)<;>with_reducible first | assumption | exact aaP _ | exact aaH _ | exact aav _ | exact aam (by decide)))) fun _ =>⟨i1,hi2⟩
  ·exact anw h hk ⟨i1,i2⟩ hc
 ·exact anw h hk ⟨i1,i2⟩ hc
theorem ad1 {o:Lf} (hk:f.kind=24) (h:LfP K e f o) (ht:o.1.done=false→amn e.c o.2.2):BackP K e f o :=
 ⟨h,fun d =>⟨fun _ =>ht d,fun e' =>(by rw [h.kind,hk] at e'; cases e'),fun e' =>by rw [h.kind,hk] at e'; cases e'⟩⟩
theorem aD2 (hc:CfgOk e.c) {t:Int} (h1:ape e t):Rg (e.ins t).a∧Rg (e.ins t).b:=by
 obtain ⟨p1,p2⟩:=h1
 have hp:=ape.prog ⟨p1,p2⟩
 have m1:e.prog t∈e.c.progs:=by rw [hp]; exact List.mem_of_getElem? (aej p1)
 have m2:e.ins t∈e.prog t:=List.mem_of_getElem? (aej (d:=dfR 3) p2)
 exact ⟨(hc.ins _ m1 _ m2).1,(hc.ins _ m1 _ m2).2.1⟩
theorem ayL {ch:FrV} (h:FrR K f) (he:EnvOk K e) (hv:Rg value) (hk:f.kind=24) (hp:ParOk e.c f ch) (hpc:PcP e f):BackP K e f (aCT e f code value):=by
 obtain ⟨ha_,hb_,hd_,hi_,hj_,hn_,ht_,hl_,hu_,hcap_,hln_⟩:=h.all
 obtain ⟨hl,ht,h5,h3,h23⟩:=hp.run hk
 have hT:=avg h
 have hrt:∀ (n:Int) (g:FrV),g.l=f.l→g.line=n→n≠3→n≠5→n≠23→amn e.c g:=fun n g e1 e2 a b d =>⟨by rw [e1]; exact hl,by rw [e2]; exact a,by rw [e2]; exact b,by rw [e2]; exact d,fun _ =>by rw [e1]; exact ht⟩
 have hr:∀ (k:Int),Rg k→ava K e.c e.recs→(aDZ (e.rc (abl f.l)) k).kids.length≤K+1∧∀ x∈(aDZ (e.rc (abl f.l)) k).kids,Rg x:=fun k hk hr =>by
  have:=avV hr (abl f.l)
  refine ⟨by simp [aDZ]; exact this.1,fun x hx =>?_⟩
  rcases List.mem_append.1 hx with hx | hx
  ·exact this.2 x hx
  ·rw [List.mem_singleton] at hx; subst hx; exact hk
 unfold aCT
 by_cases l5:f.line=5
 ·rw [if_pos l5]
  have hi:=aD2 he.cf (hpc hk l5)
  have hi2:=hi.2
  split
  ·refine ad1 hk ⟨by dsimp only [go]; (constructor<;>(try dsimp only)<;>with_reducible first | assumption | exact aaP _ | exact aaH _ | exact aav _ | exact aam (by decide)),rfl,rg0,EQ.em (EP.refl.put (hr (-1) (aam (by decide)))) ?_ ?_ ?_ ?_ ?_⟩ fun _ =>hrt 1 _ rfl rfl (by decide) (by decide) (by decide)
   all_goals (with_reducible first | assumption | exact aaP _ | exact aaH _ | exact aav _ | exact aam (by decide))
  ·refine ad1 hk ⟨by dsimp only [go]; (constructor<;>(try dsimp only)<;>with_reducible first | assumption | exact aaP _ | exact aaH _ | exact aav _ | exact aam (by decide)),rfl,rg0,EQ.of ((EP.refl.put (hr value hv)).put fun _ =>⟨Nat.zero_le _,fun x hx =>by cases hx⟩)⟩ fun _ =>hrt 6 _ rfl rfl (by decide) (by decide) (by decide)
 rw [if_neg l5]
 by_cases l6:f.line=6
 ·rw [if_pos l6]; exact ad1 hk (by (refine ⟨?_,rfl,?_,?_⟩<;>(try dsimp only [go,fin])<;>first | (with_reducible first | assumption | exact aaP _ | exact aaH _ | exact aav _ | exact aam (by decide)) | exact EQ.of EP.refl | exact EQ.of EP.refl.ac | ((first | refine EQ.em EP.refl ?_ ?_ ?_ ?_ ?_ | refine EQ.em EP.refl.ac ?_ ?_ ?_ ?_ ?_ | constructor)<;>(try dsimp only)<;>with_reducible first | assumption | exact aaP _ | exact aaH _ | exact aav _ | exact aam (by decide)))) fun _ =>hrt 7 _ rfl rfl (by decide) (by decide) (by decide)
 rw [if_neg l6]
 by_cases l7:f.line=7
 ·rw [if_pos l7]
  split
  ·exact ad1 hk (by (refine ⟨?_,rfl,?_,?_⟩<;>(try dsimp only [go,fin])<;>first | (with_reducible first | assumption | exact aaP _ | exact aaH _ | exact aav _ | exact aam (by decide)) | exact EQ.of EP.refl | exact EQ.of EP.refl.ac | ((first | refine EQ.em EP.refl ?_ ?_ ?_ ?_ ?_ | refine EQ.em EP.refl.ac ?_ ?_ ?_ ?_ ?_ | constructor)<;>(try dsimp only)<;>with_reducible first | assumption | exact aaP _ | exact aaH _ | exact aav _ | exact aam (by decide)))) fun _ =>hrt 9 _ rfl rfl (by decide) (by decide) (by decide)
  ·exact ad1 hk (by (refine ⟨?_,rfl,?_,?_⟩<;>(try dsimp only [go,fin])<;>first | (with_reducible first | assumption | exact aaP _ | exact aaH _ | exact aav _ | exact aam (by decide)) | exact EQ.of EP.refl | exact EQ.of EP.refl.ac | ((first | refine EQ.em EP.refl ?_ ?_ ?_ ?_ ?_ | refine EQ.em EP.refl.ac ?_ ?_ ?_ ?_ ?_ | constructor)<;>(try dsimp only)<;>with_reducible first | assumption | exact aaP _ | exact aaH _ | exact aav _ | exact aam (by decide)))) fun _ =>hrt 8 _ rfl rfl (by decide) (by decide) (by decide)
 rw [if_neg l7]
 by_cases l8:f.line=8
 ·rw [if_pos l8]; exact ad1 hk (by (refine ⟨?_,rfl,?_,?_⟩<;>(try dsimp only [go,fin])<;>first | (with_reducible first | assumption | exact aaP _ | exact aaH _ | exact aav _ | exact aam (by decide)) | exact EQ.of EP.refl | exact EQ.of EP.refl.ac | ((first | refine EQ.em EP.refl ?_ ?_ ?_ ?_ ?_ | refine EQ.em EP.refl.ac ?_ ?_ ?_ ?_ ?_ | constructor)<;>(try dsimp only)<;>with_reducible first | assumption | exact aaP _ | exact aaH _ | exact aav _ | exact aam (by decide)))) fun _ =>hrt 1 _ rfl rfl (by decide) (by decide) (by decide)
 rw [if_neg l8]
 by_cases l9:f.line=9
 ·rw [if_pos l9]
  split
  ·have hln:(f.l++[f.n]).length≤K+1:=by have:=h.ln; simp; omega
   have hll:∀ x∈f.l++[f.n],Rg x:=fun x hx =>by
    rcases List.mem_append.1 hx with hx | hx
    ·exact h.l x hx
    ·rw [List.mem_singleton] at hx; subst hx; exact h.n
   exact ad1 hk (by (refine ⟨?_,rfl,?_,?_⟩<;>(try dsimp only [go,fin])<;>first | (with_reducible first | assumption | exact aaP _ | exact aaH _ | exact aav _ | exact aam (by decide)) | exact EQ.of EP.refl | exact EQ.of EP.refl.ac | ((first | refine EQ.em EP.refl ?_ ?_ ?_ ?_ ?_ | refine EQ.em EP.refl.ac ?_ ?_ ?_ ?_ ?_ | constructor)<;>(try dsimp only)<;>with_reducible first | assumption | exact aaP _ | exact aaH _ | exact aav _ | exact aam (by decide)))) fun _ =>⟨by simp [go],by simp [go],by simp [go],by simp [go],fun e =>absurd rfl e⟩
  ·exact ad1 hk (by (refine ⟨?_,rfl,?_,?_⟩<;>(try dsimp only [go,fin])<;>first | (with_reducible first | assumption | exact aaP _ | exact aaH _ | exact aav _ | exact aam (by decide)) | exact EQ.of EP.refl | exact EQ.of EP.refl.ac | ((first | refine EQ.em EP.refl ?_ ?_ ?_ ?_ ?_ | refine EQ.em EP.refl.ac ?_ ?_ ?_ ?_ ?_ | constructor)<;>(try dsimp only)<;>with_reducible first | assumption | exact aaP _ | exact aaH _ | exact aav _ | exact aam (by decide)))) fun _ =>hrt 1 _ rfl rfl (by decide) (by decide) (by decide)
 rw [if_neg l9]
 by_cases l14:f.line=14
 ·rw [if_pos l14]
  have:=ahy (e:=e) h (EQ.em (e':=e) (k:=7) (w:=f.a) (t:=abl f.l) (o:=0) (l:=f.t) EP.refl (aam (by decide)) h.a hT rg0 h.t)
  exact ad1 hk this.1 (this.2 hl)
 rw [if_neg l14]
 by_cases l20:f.line=20
 ·rw [if_pos l20]
  split
  ·exact ad1 hk (by (refine ⟨?_,rfl,?_,?_⟩<;>(try dsimp only [go,fin])<;>first | (with_reducible first | assumption | exact aaP _ | exact aaH _ | exact aav _ | exact aam (by decide)) | exact EQ.of EP.refl | exact EQ.of EP.refl.ac | ((first | refine EQ.em EP.refl ?_ ?_ ?_ ?_ ?_ | refine EQ.em EP.refl.ac ?_ ?_ ?_ ?_ ?_ | constructor)<;>(try dsimp only)<;>with_reducible first | assumption | exact aaP _ | exact aaH _ | exact aav _ | exact aam (by decide)))) fun _ =>hrt 22 _ rfl rfl (by decide) (by decide) (by decide)
  ·exact ad1 hk (by (refine ⟨?_,rfl,?_,?_⟩<;>(try dsimp only [go,fin])<;>first | (with_reducible first | assumption | exact aaP _ | exact aaH _ | exact aav _ | exact aam (by decide)) | exact EQ.of EP.refl | exact EQ.of EP.refl.ac | ((first | refine EQ.em EP.refl ?_ ?_ ?_ ?_ ?_ | refine EQ.em EP.refl.ac ?_ ?_ ?_ ?_ ?_ | constructor)<;>(try dsimp only)<;>with_reducible first | assumption | exact aaP _ | exact aaH _ | exact aav _ | exact aam (by decide)))) fun _ =>hrt 21 _ rfl rfl (by decide) (by decide) (by decide)
 rw [if_neg l20]
 by_cases l21:f.line=21
 ·rw [if_pos l21]
  have:=ahy (e:=e) h (EQ.of EP.refl)
  exact ad1 hk this.1 (this.2 hl)
 rw [if_neg l21]
 by_cases l22:f.line=22
 ·rw [if_pos l22]
  split
  ·have hln:(f.l.dropLast++[f.n]).length≤K+1:=by have:=h.ln; simp; omega
   have hll:∀ x∈f.l.dropLast++[f.n],Rg x:=fun x hx =>by
    rcases List.mem_append.1 hx with hx | hx
    ·exact h.l x (List.mem_of_mem_take (by rw [List.dropLast_eq_take] at hx; exact hx))
    ·rw [List.mem_singleton] at hx; subst hx; exact h.n
   exact ad1 hk (by (refine ⟨?_,rfl,?_,?_⟩<;>(try dsimp only [go,fin])<;>first | (with_reducible first | assumption | exact aaP _ | exact aaH _ | exact aav _ | exact aam (by decide)) | exact EQ.of EP.refl | exact EQ.of EP.refl.ac | ((first | refine EQ.em EP.refl ?_ ?_ ?_ ?_ ?_ | refine EQ.em EP.refl.ac ?_ ?_ ?_ ?_ ?_ | constructor)<;>(try dsimp only)<;>with_reducible first | assumption | exact aaP _ | exact aaH _ | exact aav _ | exact aam (by decide)))) fun _ =>⟨by simp [go],by simp [go],by simp [go],by simp [go],fun e =>absurd rfl e⟩
  ·have:=ahy (e:=e) h (EQ.of EP.refl)
   exact ad1 hk this.1 (this.2 hl)
 rw [if_neg l22]
 exact ad1 hk ⟨h.up,rfl,rg0,EQ.of EP.refl⟩ fun _ =>⟨hl,h3,l5,h23,fun _ =>ht⟩
theorem atJ {ch:FrV} (h:FrR K f) (he:EnvOk K e) (hcd:True) (hv:Rg value) (hp:ParOk e.c f ch) (hpc:PcP e f) (h12:ch.kind=12→code=3∨(0≤value∧value<(e.recs.length:Int))):BackP K e f (ag8 e f code value):=by
 obtain ⟨ha_,hb_,hd_,hi_,hj_,hn_,ht_,hl_,hu_,hcap_,hln_⟩:=h.all
 unfold ag8
 by_cases k5:f.kind=5
 ·rw [if_pos k5]
  refine BackP.of ?_ (by rw [k5]; decide) (by rw [k5]; decide) (by rw [k5]; decide)
  (repeat' split)<;>(refine ⟨?_,rfl,?_,?_⟩<;>(try dsimp only [go,fin])<;>first | (with_reducible first | assumption | exact aaP _ | exact aaH _ | exact aav _ | exact aam (by decide)) | exact EQ.of EP.refl | exact EQ.of EP.refl.ac | ((first | refine EQ.em EP.refl ?_ ?_ ?_ ?_ ?_ | refine EQ.em EP.refl.ac ?_ ?_ ?_ ?_ ?_ | constructor)<;>(try dsimp only)<;>with_reducible first | assumption | exact aaP _ | exact aaH _ | exact aav _ | exact aam (by decide)))
 rw [if_neg k5]
 by_cases k6:f.kind=6
 ·rw [if_pos k6]
  refine BackP.of ?_ (by rw [k6]; decide) (by rw [k6]; decide) (by rw [k6]; decide)
  (repeat' split)<;>(refine ⟨?_,rfl,?_,?_⟩<;>(try dsimp only [go,fin])<;>first | (with_reducible first | assumption | exact aaP _ | exact aaH _ | exact aav _ | exact aam (by decide)) | exact EQ.of EP.refl | exact EQ.of EP.refl.ac | ((first | refine EQ.em EP.refl ?_ ?_ ?_ ?_ ?_ | refine EQ.em EP.refl.ac ?_ ?_ ?_ ?_ ?_ | constructor)<;>(try dsimp only)<;>with_reducible first | assumption | exact aaP _ | exact aaH _ | exact aav _ | exact aam (by decide)))
 rw [if_neg k6]
 by_cases k15:f.kind=15
 ·rw [if_pos k15]
  exact BackP.of ⟨h.up,rfl,h.t,EQ.of EP.refl⟩ (by rw [k15]; decide) (by rw [k15]; decide) (by rw [k15]; decide)
 rw [if_neg k15]
 by_cases k17:f.kind=17
 ·rw [if_pos k17]; exact BackP.of (avd h) (by rw [k17]; decide) (by rw [k17]; decide) (by rw [k17]; decide)
 rw [if_neg k17]
 by_cases k18:f.kind=18
 ·rw [if_pos k18]
  refine BackP.of ?_ (by rw [k18]; decide) (by rw [k18]; decide) (by rw [k18]; decide)
  (repeat' split)<;>(refine ⟨?_,rfl,?_,?_⟩<;>(try dsimp only [go,fin])<;>first | (with_reducible first | assumption | exact aaP _ | exact aaH _ | exact aav _ | exact aam (by decide)) | exact EQ.of EP.refl | exact EQ.of EP.refl.ac | ((first | refine EQ.em EP.refl ?_ ?_ ?_ ?_ ?_ | refine EQ.em EP.refl.ac ?_ ?_ ?_ ?_ ?_ | constructor)<;>(try dsimp only)<;>with_reducible first | assumption | exact aaP _ | exact aaH _ | exact aav _ | exact aam (by decide)))
 rw [if_neg k18]
 by_cases k22:f.kind=22
 ·rw [if_pos k22]; exact BackP.of (auU h hv) (by rw [k22]; decide) (by rw [k22]; decide) (by rw [k22]; decide)
 rw [if_neg k22]
 by_cases k23:f.kind=23
 ·rw [if_pos k23]; exact BackP.of (atU h hv) (by rw [k23]; decide) (by rw [k23]; decide) (by rw [k23]; decide)
 rw [if_neg k23]
 by_cases k24:f.kind=24
 ·rw [if_pos k24]; exact ayL h he hv k24 hp hpc
 rw [if_neg k24]
 by_cases k25:f.kind=25
 ·rw [if_pos k25]; exact BackP.of (apg h hv he.cf) (by rw [k25]; decide) (by rw [k25]; decide) (by rw [k25]; decide)
 rw [if_neg k25]
 by_cases k26:f.kind=26
 ·rw [if_pos k26]; exact asf h he hv k26 hp h12
 rw [if_neg k26]
 have h0:=hp.rk
 unfold apc at h0
 exfalso
 (repeat' split at h0)<;>omega
theorem ParOk.pre {ch:FrV} (hp:ParOk e.c f ch) (h:FrR K f) (he:EnvOk K e) (hpc:PcP e f) (hK:K≤900000000) (h12:ch.kind=12→code=3∨(0≤value∧value<(e.recs.length:Int))):BackC e f code value:=⟨he.cf,he.fit hK,fun hk =>by
  obtain ⟨h1,h2,h3,h4,h5⟩:=hp.run hk
  refine ⟨⟨⟨h1,by have:=h.ln; omega⟩,by have:=he.rcs.1; exact ⟨by omega,by omega⟩⟩,fun l5 =>⟨hpc hk l5,by have:=(avV he.rcs (abl f.l)).1; omega,fun hcode =>(h12 (h3 l5)).resolve_left hcode⟩⟩,fun hk =>by
  obtain ⟨h1,h2,h3⟩:=hp.cl hk
  exact ⟨⟨h1,h2⟩,fun l3 hcode =>(h12 (h3 l3)).resolve_left hcode⟩⟩
end
def Par (K:Nat) (c:Cfg):List FrV→FrV→Prop
 | [],_ =>True
 | p::ps,ch =>ParOk c p ch∧FrR K p∧Par K c ps p
def aEw (p:FrV):Prop:=¬ (p.kind=24∧p.line=5)
section
variable {K:Nat} {c:Cfg}
theorem ParOk.ch {p a b:FrV} (h:ParOk c p a) (e:b.kind=a.kind):ParOk c p b:=⟨by rw [e]; exact h.rk,by rw [e]; exact h.run,by rw [e]; exact h.cl⟩
theorem Par.ch {ps:List FrV} {a b:FrV} (h:Par K c ps a) (e:b.kind=a.kind):Par K c ps b:=by
 cases ps with
 | nil =>trivial
 | cons p ps =>exact ⟨h.1.ch e,h.2⟩
theorem Par.le {L:Nat}:∀ {ps:List FrV} {a:FrV},Par K c ps a→K≤L→Par L c ps a
 | [],_,_,_ =>trivial
 | _::_,_,h,hl =>⟨h.1,h.2.1.le hl,h.2.2.le hl⟩
theorem Par.len:∀ {ps:List FrV} {a:FrV},Par K c ps a→ps.length+apc a.kind≤4
 | [],a,_ =>by have:=ark a.kind; simp; omega
 | p::ps,a,h =>by
  have h1:=h.1.rk
  have h2:=h.2.2.len
  simp; omega
theorem Par.rest:∀ {ps:List FrV} {a:FrV},Par K c ps a→a.kind≠12→∀ p∈ps,aEw p
 | [],_,_,_,p,hp =>by cases hp
 | q::ps,a,h,ha,p,hp =>by
  rcases List.mem_cons.1 hp with rfl | hp
  ·exact fun e =>ha ((h.1.run e.1).2.2.1 e.2)
  ·refine h.2.2.rest (fun e =>?_) p hp
   have:=h.1.rk
   rw [e] at this
   simp [apc] at this
theorem aEw.pc {e:EnvV} {p:FrV} (h:aEw p):PcP e p:=fun e1 e2 =>absurd ⟨e1,e2⟩ h
structure DeepP (K:Nat) (e:EnvV) (top:FrV) (ps:List FrV):Prop where
 fr:FrR K top
 par:Par K e.c ps top
 pc:∀ p∈ps,PcP e p
theorem aj7 {e:EnvV} (he:EnvOk K e) (hK1:1≤K):∀ (k:Nat) (top:FrV) (ps:List FrV),DeepP K e top ps→TopOk e.c top→apc top.kind<k→DeepP K e (adv e k top ps).1 (adv e k top ps).2∧LiveOk e (adv e k top ps).1
 | 0,_,_,_,_,h =>by omega
 | k+1,top,ps,hx,ht,hk =>by
  have ho:=aqy hx.fr he ht hK1
  rw [adv]
  rcases hM:ag1 e top with ⟨o,f'⟩
  rw [hM] at ho
  have ho1:=ho.fr
  have ho2:=ho.kind
  cases o with
  | none =>exact ⟨⟨ho1,hx.par.ch ho2,hx.pc⟩,ho.no rfl⟩
  | some ch =>
   obtain ⟨h1,h2,h3,h4⟩:=ho.yes ch rfl
   refine aj7 he hK1 k _ _ ⟨h1,⟨h3.ch rfl,ho1,hx.par.ch ho2⟩,fun p hp =>?_⟩ h2 ?_
   ·rcases List.mem_cons.1 hp with rfl | hp
    ·exact h4
    ·exact hx.pc p hp
   ·have h5:=h3.rk
    rw [ho2] at h5
    show apc ch.kind<k
    omega
structure StOk (K:Nat) (c:Cfg) (t:FrV) (ps:List FrV):Prop where
 fr:FrR K t
 top:TopOk c t
 par:Par K c ps t
 rest:∀ p∈ps,aEw p
theorem StOk.le {L:Nat} {top:FrV} {ps:List FrV} (h:StOk K c top ps) (hl:K≤L):StOk L c top ps:=⟨h.fr.le hl,h.top,h.par.le hl,h.rest⟩
structure BkP (K:Nat) (e:EnvV) (o:Option ResV×EnvV×List FrV):Prop where
 env:EnvOk K o.2.1
 c:o.2.1.c=e.c
 now:o.2.1.now=e.now
 draw:o.2.1.draw=e.draw
 len:o.2.1.m.cells.length=e.m.cells.length
 st:o.1=none→∃ top ps,o.2.2=top::ps∧StOk K e.c top ps
theorem aqJ {e0:EnvV}:∀ (ps:List FrV) (L:Nat) (r:ResV) (e:EnvV) (top:FrV),e.c=e0.c→e.now=e0.now→e.draw=e0.draw→e.m.cells.length=e0.m.cells.length →
  EnvOk L e→DeepP L e top ps→Rg r.value→(r.done=false→TopOk e.c top∧∀ p∈ps,aEw p)→(top.kind=12→r.code=3∨(0≤r.value∧r.value<(e.recs.length:Int)))→BkP (L+ps.length) e0 (aiL r e top ps)
 | [],L,r,e,top,c1,c2,c3,c4,he,hx,hv,ht,h12 =>by
  rw [aiL]
  by_cases hd:r.done=true
  ·rw [if_pos hd]; exact ⟨he,c1,c2,c3,c4,fun e =>by cases e⟩
  ·rw [if_neg hd]
   have:=ht (by simpa using hd)
   exact ⟨he,c1,c2,c3,c4,fun _ =>⟨top,[],rfl,hx.fr,c1▸this.1,trivial,fun p hp =>by cases hp⟩⟩
 | p::ps,L,r,e,top,c1,c2,c3,c4,he,hx,hv,ht,h12 =>by
  rw [aiL]
  by_cases hd:r.done=true
  ·rw [if_pos hd]
   have ho:=atJ (code:=r.code) hx.par.2.1 he trivial hv hx.par.1 (hx.pc p (List.mem_cons_self ..)) h12
   have hpk:p.kind≠12:=fun e =>by
    have:=hx.par.1.rk
    rw [e] at this
    simp [apc] at this
   have hrest:=hx.par.2.2.rest hpk
   have hc:=ho.lf.env.c
   have hg:=aqJ (e0:=e0) ps (L+1) (ag8 e p r.code r.value).1 (ag8 e p r.code r.value).2.1 (ag8 e p r.code r.value).2.2 (hc.trans c1) (ho.lf.env.now.trans c2) (ho.lf.env.draw.trans c3) (ho.lf.env.len.trans c4) (ho.lf.env.ok he)
    ⟨ho.lf.fr,by rw [hc]; exact (hx.par.2.2.le (Nat.le_succ _)).ch ho.lf.kind,fun q hq =>(hrest q hq).pc⟩ ho.lf.val (fun e =>⟨by rw [hc]; exact ho.top e,hrest⟩) (fun e =>absurd (ho.lf.kind.symm.trans e) hpk)
   rw [show L+(p::ps).length=L+1+ps.length by simp; omega]
   exact hg
  ·rw [if_neg hd]
   have:=ht (by simpa using hd)
   exact ⟨he.le (Nat.le_add_right _ _),c1,c2,c3,c4,fun _ =>⟨top,p::ps,rfl,hx.fr.le (Nat.le_add_right _ _),c1▸this.1,c1▸hx.par.le (Nat.le_add_right _ _),this.2⟩⟩
theorem avm {e:EnvV} {top:FrV} {ps:List FrV} (hx:StOk K e.c top ps) (he:EnvOk K e) (hK1:1≤K):BkP (K+5) e (avn e top ps):=by
 unfold avn
 obtain ⟨hd,hl⟩:=aj7 he hK1 8 top ps ⟨hx.fr,hx.par,fun p hp =>(hx.rest p hp).pc⟩ hx.top (by have:=ark top.kind; omega)
 generalize adv e 8 top ps=z at hd hl
 have ho:=atd hd.fr he hl
 have hlen:=hd.par.len
 have hc:=ho.lf.env.c
 have hpc:∀ p∈z.2,PcP (aeh e z.1).2.1 p:=fun p hp =>by
  by_cases h12:z.1.kind=12
  ·have h1:=(ho.new h12).2.1
   intro a b
   have:=hd.pc p hp a b
   unfold ape EnvV.prog EnvV.rc at this ⊢
   rw [h1,hc]; exact this
  ·exact (hd.par.rest h12 p hp).pc
 have hlen2:((aeh e z.1).2.1.recs.length:Int)=(e.recs.length:Int):=by
  have h1:=(ho.lf.env.ok he).rcs.1
  have h2:=he.rcs.1
  rw [hc] at h1
  omega
 have hb:=aqJ (e0:=e) z.2 (K+1) (aeh e z.1).1 (aeh e z.1).2.1 (aeh e z.1).2.2 hc ho.lf.env.now ho.lf.env.draw ho.lf.env.len (ho.lf.env.ok he)
  ⟨ho.lf.fr,by rw [hc]; exact (hd.par.le (Nat.le_succ _)).ch ho.lf.kind,hpc⟩ ho.lf.val (fun d =>⟨by rw [hc]; exact ho.top d,hd.par.rest fun h12 =>by have:=(ho.new h12).1; rw [d] at this; cases this⟩)
  (fun e2 =>by
   have:=(ho.new (ho.lf.kind.symm.trans e2)).2.2
   omega)
 have hKK:K+1+z.2.length≤K+5:=by omega
 exact ⟨hb.env.le hKK,hb.c,hb.now,hb.draw,hb.len,fun e1 =>by
  obtain ⟨t,q,h1,h2⟩:=hb.st e1
  exact ⟨t,q,h1,h2.le hKK⟩⟩
end
noncomputable def enF (self3:MaV×EnvV×Unit→Option (MaV×EnvV×Unit)) (x1:MaV×EnvV×Unit):Option (MaV×EnvV×Unit) :=
  if 0≤wi (((x1.1.f.length:Nat):Int)-1)∧wi (((x1.1.f.length:Nat):Int)-1)<((x1.1.f.length:Nat):Int) then
   agr (
    (aix x1.2.1 (au3 x1.1.f (wi (((x1.1.f.length:Nat):Int)-1)))).bind fun r5 =>
    if (!r5.1.2.1)=true then
     some (({ x1.1 with f:=x1.1.f.set (wi (((x1.1.f.length:Nat):Int)-1)).toNat r5.2.2.1 }:MaV),r5.2.1,())
    else
    if ((((x1.1.f.set (wi (((x1.1.f.length:Nat):Int)-1)).toNat r5.2.2.1).length+([({ r5.1.1 with line:=1 }:FrV)]:List FrV).length:Nat)):Int)<100000000000 then
     self3 (({ x1.1 with f:=(x1.1.f.set (wi (((x1.1.f.length:Nat):Int)-1)).toNat r5.2.2.1)++([({ r5.1.1 with line:=1 }:FrV)]) }:MaV),r5.2.1,())
    else none
   ) (
    (aix x1.2.1 (au3 x1.1.f (wi (((x1.1.f.length:Nat):Int)-1)))).bind fun r4 =>
    if (!r4.1.2.1)=true then
     some (({ x1.1 with f:=x1.1.f.set (wi (((x1.1.f.length:Nat):Int)-1)).toNat r4.2.2.1 }:MaV),r4.2.1,())
    else
    if ((((x1.1.f.set (wi (((x1.1.f.length:Nat):Int)-1)).toNat r4.2.2.1).length+([({ r4.1.1 with line:=1 }:FrV)]:List FrV).length:Nat)):Int)<100000000000 then
     self3 (({ x1.1 with f:=(x1.1.f.set (wi (((x1.1.f.length:Nat):Int)-1)).toNat r4.2.2.1)++([({ r4.1.1 with line:=1 }:FrV)]) }:MaV),r4.2.1,())
    else none
   )
  else none
noncomputable def bkF (self15:ResV×MaV×EnvV×Unit→Option ((ResV×MaV×EnvV×Unit)⊕((Bool×Unit)×(MaV×EnvV×Unit)))) (x13:ResV×MaV×EnvV×Unit):Option ((ResV×MaV×EnvV×Unit)⊕((Bool×Unit)×(MaV×EnvV×Unit))) :=
    if x13.1.done=true then
     if 0≤wi (((x13.2.1.f.length:Nat):Int)-1)∧wi (((x13.2.1.f.length:Nat):Int)-1)≤((x13.2.1.f.length:Nat):Int) then
      if (((x13.2.1.f.take (wi (((x13.2.1.f.length:Nat):Int)-1):Int).toNat).length:Nat):Int)=0 then
       if x13.1.value=x13.1.value then
        if x13.1.code=x13.1.code then
         if x13.1.value=x13.1.value then
          Option.map Sum.inr (
           some ((true,()),(({ x13.1 with f:=x13.2.1.f.take (wi (((x13.2.1.f.length:Nat):Int)-1):Int).toNat,over:=true }:MaV),x13.2.2.1,()))
          )
         else none
        else none
       else none
      else
      if 0≤wi ((((x13.2.1.f.take (wi (((x13.2.1.f.length:Nat):Int)-1):Int).toNat).length:Nat):Int)-1)∧wi ((((x13.2.1.f.take (wi (((x13.2.1.f.length:Nat):Int)-1):Int).toNat).length:Nat):Int)-1)<(((x13.2.1.f.take (wi (((x13.2.1.f.length:Nat):Int)-1):Int).toNat).length:Nat):Int) then
       (am8 x13.2.2.1 (au3 (x13.2.1.f.take (wi (((x13.2.1.f.length:Nat):Int)-1):Int).toNat) (wi ((((x13.2.1.f.take (wi (((x13.2.1.f.length:Nat):Int)-1):Int).toNat).length:Nat):Int)-1))) x13.1.code x13.1.value).bind fun r16 =>
       self15 (r16.1.1,({ x13.2.1 with f:=(x13.2.1.f.take (wi (((x13.2.1.f.length:Nat):Int)-1):Int).toNat).set (wi ((((x13.2.1.f.take (wi (((x13.2.1.f.length:Nat):Int)-1):Int).toNat).length:Nat):Int)-1)).toNat r16.2.2.1 }:MaV),r16.2.1,())
      else none
     else none
    else
    some (Sum.inl (x13.1,x13.2.1,x13.2.2.1,()))
theorem ayu (m:MaV) (e:EnvV):adg m e=if m.over=true then some ((true,()),(m,e,())) else
    (lpF enF 18446744073709551616 (m,e,())).bind fun z2 =>
      if 0≤wi (((z2.1.f.length:Nat):Int)-1)∧wi (((z2.1.f.length:Nat):Int)-1)<((z2.1.f.length:Nat):Int) then
        agr ((alx z2.2.1 (au3 z2.1.f (wi (((z2.1.f.length:Nat):Int)-1)))).bind fun r12 =>
          (lpF bkF 18446744073709551616 (r12.1.1,({ z2.1 with f:=z2.1.f.set (wi (((z2.1.f.length:Nat):Int)-1)).toNat r12.2.2.1 }:MaV),r12.2.1,())).bind fun z14 =>match z14 with
            | .inr o17 =>some o17
            | .inl z14 =>some ((false,()),(z14.2.1,z14.2.2.1,())))
         ((alx z2.2.1 (au3 z2.1.f (wi (((z2.1.f.length:Nat):Int)-1)))).bind fun r12 =>
          (lpF bkF 18446744073709551616 (r12.1.1,({ z2.1 with f:=z2.1.f.set (wi (((z2.1.f.length:Nat):Int)-1)).toNat r12.2.2.1 }:MaV),r12.2.1,())).bind fun z14 =>match z14 with
            | .inr o17 =>some o17
            | .inl z14 =>some ((false,()),(z14.2.1,z14.2.2.1,())))
      else none:=by kernel_rfl
theorem aoA {n:Nat} (h:n≤1000):wi (((n+1:Nat):Int)-1)=(n:Int):=by
 rw [acH (aam (by omega))]; omega
theorem arR {a:List FrV} {t:FrV}:au3 (a++[t]) (a.length:Int)=t:=by simp [au3,atL]; rfl
theorem arQ {a:List FrV} {t g:FrV}:(a++[t]).set ((a.length:Int)).toNat g=a++[g]:=by simp
theorem awX {a:List FrV} {t:FrV}:(a++[t]).take ((a.length:Int)).toNat=a:=by simp
section
variable {K:Nat} {e:EnvV}
theorem aEg (self:MaV×EnvV×Unit→Option (MaV×EnvV×Unit)) (m:MaV) (top:FrV) (a:List FrV) (hp:EntC e top) (ha:a.length≤900) :
  enF self ({ m with f:=a++[top] },e,())=match ag1 e top with
   | (none,f') =>some ({ m with f:=a++[f'] },e,())
   | (some ch,f') =>self ({ m with f:=(a++[f'])++[{ ch with line:=1 }] },e,()):=by
 unfold enF
 have h1:(a++[top]).length=a.length+1:=by simp
 have hg:0≤(a.length:Int)∧(a.length:Int)<((a.length+1:Nat):Int):=by omega
 simp only [afL,h1,aoA (show a.length≤1000 by omega),hg,and_self,if_true,arR,azT hp,Option.bind_some,aFS,arQ]
 rcases ag1 e top with ⟨o,f'⟩
 cases o with
 | none =>rfl
 | some ch =>
  have hq:(((a++[f']).length+([({ ch with line:=1 }:FrV)]:List FrV).length:Nat):Int)<100000000000:=by simp; omega
  simp only [Option.isSome_some,Bool.not_true,Bool.false_eq_true,if_false,Option.getD_some,hq,if_true]
theorem atv (he:EnvOk K e) (hK1:1≤K) (hK:K≤900000000) (m:MaV):∀ (k n:Nat) (top:FrV) (ps:List FrV),DeepP K e top ps→TopOk e.c top→apc top.kind<k→k≤n →
  lpF enF n ({ m with f:=ps.reverse++[top] },e,())=some ({ m with f:=(adv e k top ps).2.reverse++[(adv e k top ps).1] },e,())
 | 0,_,_,_,_,_,h,_ =>by omega
 | k+1,0,_,_,_,_,_,h =>by omega
 | k+1,n+1,top,ps,hx,ht,hk,hn =>by
  have hlen:=hx.par.len
  have hpre:EntC e top:=⟨he.cf,he.rcs.1,fun hk =>⟨(ht.run hk).1,by have:=hx.fr.ln; omega⟩,fun hk =>(ht.cl hk).1⟩
  rw [ach,aEg _ m top ps.reverse hpre (by simp; omega),adv]
  have ho:=aqy hx.fr he ht hK1
  rcases hM:ag1 e top with ⟨o,f'⟩
  rw [hM] at ho
  have ho1:=ho.fr
  have ho2:=ho.kind
  cases o with
  | none =>rfl
  | some ch =>
   obtain ⟨h1,h2,h3,h4⟩:=ho.yes ch rfl
   have:=atv he hK1 hK m k n { ch with line:=1 } (f'::ps) ⟨h1,⟨h3.ch rfl,ho1,hx.par.ch ho2⟩,fun p hp =>by
    rcases List.mem_cons.1 hp with rfl | hp
    ·exact h4
    ·exact hx.pc p hp⟩ h2 (by
     have h5:=h3.rk
     rw [ho2] at h5
     show apc ch.kind<k
     omega) (by omega)
   rw [List.reverse_cons] at this
   exact this
def bkO (m:MaV) (z:Option ResV×EnvV×List FrV) (r:ResV):(ResV×MaV×EnvV×Unit)⊕((Bool×Unit)×(MaV×EnvV×Unit)):=match z.1 with
 | some q =>.inr ((true,()),(⟨[],true,q.code,q.value⟩,z.2.1,()))
 | none =>.inl (r,{ m with f:=z.2.2.reverse },z.2.1,())
theorem aCJ (self:ResV×MaV×EnvV×Unit→Option ((ResV×MaV×EnvV×Unit)⊕((Bool×Unit)×(MaV×EnvV×Unit)))) (m:MaV) (r:ResV) (top:FrV) (hd:r.done=true):bkF self (r,{ m with f:=[top] },e,())=some (.inr ((true,()),(⟨[],true,r.code,r.value⟩,e,()))):=by
 unfold bkF
 have h1:wi (((([top]:List FrV).length:Nat):Int)-1)=0:=rfl
 have hg:(0:Int)≤0∧(0:Int)≤((([top]:List FrV).length:Nat):Int):=⟨by decide,by simp⟩
 have h2:((([top].take (0:Int).toNat).length:Nat):Int)=0:=rfl
 simp only [hd,if_true,h1,hg,and_self,h2]
 rfl
theorem aAb (self:ResV×MaV×EnvV×Unit→Option ((ResV×MaV×EnvV×Unit)⊕((Bool×Unit)×(MaV×EnvV×Unit)))) (m:MaV) (r:ResV) (top p:FrV) (a:List FrV) (hd:r.done=true) (ha:a.length≤900) (hp:BackC e p r.code r.value) :
  bkF self (r,{ m with f:=(a++[p])++[top] },e,())=self ((ag8 e p r.code r.value).1,{ m with f:=a++[(ag8 e p r.code r.value).2.2] },(ag8 e p r.code r.value).2.1,()):=by
 unfold bkF
 have h1:((a++[p])++[top]).length=(a++[p]).length+1:=by simp
 have h2:(a++[p]).length=a.length+1:=by simp
 have hg:0≤((a++[p]).length:Int)∧((a++[p]).length:Int)≤(((a++[p]).length+1:Nat):Int):=by omega
 have hg2:0≤(a.length:Int)∧(a.length:Int)<((a.length+1:Nat):Int):=by omega
 have h3:¬ ((((a.length+1:Nat)):Int)=0):=by omega
 simp only [hd,if_true,h1,aoA (show (a++[p]).length≤1000 by omega),hg,and_self,awX]
 simp only [h2,aoA (show a.length≤1000 by omega),hg2,and_self,h3,if_true,if_false,arR,arQ,aCL hp,Option.bind_some,aeO]
theorem atG {e0:EnvV} (m:MaV):∀ (ps:List FrV) (n L:Nat) (r:ResV) (e:EnvV) (top:FrV),e.c=e0.c→ps.length<n→L+ps.length≤900000000→EnvOk L e→DeepP L e top ps→Rg r.value →
  (top.kind=12→r.code=3∨(0≤r.value∧r.value<(e.recs.length:Int)))→∃ r',lpF bkF n (r,{ m with f:=ps.reverse++[top] },e,())=some (bkO m (aiL r e top ps) r')
 | _,0,_,_,_,_,_,h,_,_,_,_,_ =>by omega
 | [],n+1,L,r,e,top,c1,hn,hL,he,hx,hv,h12 =>by
  refine ⟨r,?_⟩
  rw [ach,aiL]
  by_cases hd:r.done=true
  ·rw [if_pos hd]
   exact aCJ _ m r top hd
  ·rw [if_neg hd]
   unfold bkF
   rw [if_neg hd]
   rfl
 | p::ps,n+1,L,r,e,top,c1,hn,hL,he,hx,hv,h12 =>by
  rw [ach,aiL]
  by_cases hd:r.done=true
  ·rw [if_pos hd]
   have hlen:=hx.par.len
   have hpre:=hx.par.1.pre hx.par.2.1 he (hx.pc p (List.mem_cons_self ..)) (by omega) (code:=r.code) (value:=r.value) h12
   rw [List.reverse_cons,aAb _ m r top p ps.reverse hd (by simp at hlen ⊢; omega) hpre]
   have ho:=atJ (code:=r.code) hx.par.2.1 he trivial hv hx.par.1 (hx.pc p (List.mem_cons_self ..)) h12
   have hpk:p.kind≠12:=fun e =>by
    have:=hx.par.1.rk
    rw [e] at this
    simp [apc] at this
   have hrest:=hx.par.2.2.rest hpk
   have hc:=ho.lf.env.c
   exact atG (e0:=e0) m ps n (L+1) (ag8 e p r.code r.value).1 (ag8 e p r.code r.value).2.1 (ag8 e p r.code r.value).2.2 (hc.trans c1) (by simp at hn; omega) (by simp at hL; omega) (ho.lf.env.ok he)
    ⟨ho.lf.fr,by rw [hc]; exact (hx.par.2.2.le (Nat.le_succ _)).ch ho.lf.kind,fun q hq =>(hrest q hq).pc⟩ ho.lf.val (fun e =>absurd (ho.lf.kind.symm.trans e) hpk)
  ·rw [if_neg hd]
   refine ⟨r,?_⟩
   unfold bkF
   rw [if_neg hd]
   simp only [bkO,List.reverse_cons]
def aCP (K:Nat) (c:Cfg) (x:MaV):Prop:=x.over=true∨∃ top ps,x.f=ps.reverse++[top]∧StOk K c top ps
theorem aCP.le {L:Nat} {c:Cfg} {x:MaV} (h:aCP K c x) (hl:K≤L):aCP L c x:=h.imp id fun ⟨t,q,h1,h2⟩ =>⟨t,q,h1,h2.le hl⟩
structure StepP (K:Nat) (e:EnvV) (o:Bool×MaV×EnvV):Prop where
 env:EnvOk K o.2.2
 c:o.2.2.c=e.c
 now:o.2.2.now=e.now
 draw:o.2.2.draw=e.draw
 len:o.2.2.m.cells.length=e.m.cells.length
 ma:aCP K e.c o.2.1
theorem avl {x:MaV} (hx:aCP K e.c x) (he:EnvOk K e) (hK1:1≤K) (hK:K≤800000000):adg x e=some (((aib e x).1,()),((aib e x).2.1,(aib e x).2.2,()))∧StepP (K+5) e (aib e x):=by
 rw [ayu]
 unfold aib
 by_cases hov:x.over=true
 ·rw [if_pos hov,if_pos hov]
  exact ⟨rfl,he.le (Nat.le_add_right _ _),rfl,rfl,rfl,rfl,.inl hov⟩
 rw [if_neg hov,if_neg hov]
 obtain ⟨top,ps,hf,hs⟩:=hx.resolve_left hov
 have hrv:x.f.reverse=top::ps:=by rw [hf]; simp
 rw [hrv]
 dsimp only
 have hb:=avm hs he hK1
 have hD:DeepP K e top ps:=⟨hs.fr,hs.par,fun p hp =>(hs.rest p hp).pc⟩
 have hrk:apc top.kind<8:=by have:=ark top.kind; omega
 have h1:=atv he hK1 (by omega) x 8 18446744073709551616 top ps hD hs.top hrk (by omega)
 have hx0:({ x with f:=ps.reverse++[top] }:MaV)=x:=by rw [← hf]
 rw [hx0] at h1
 obtain ⟨hd,hl⟩:=aj7 he hK1 8 top ps hD hs.top hrk
 have ho:=atd hd.fr he hl
 have hleaf:=aB6 (hl.pre hd.fr he (by omega))
 have hlen:=hd.par.len
 have hc:=ho.lf.env.c
 unfold avn at hb ⊢
 generalize adv e 8 top ps=z at h1 hd hl ho hleaf hlen hc hb
 have hpc:∀ p∈z.2,PcP (aeh e z.1).2.1 p:=fun p hp =>by
  by_cases h12:z.1.kind=12
  ·have h1:=(ho.new h12).2.1
   intro a b
   have:=hd.pc p hp a b
   unfold ape EnvV.prog EnvV.rc at this ⊢
   rw [h1,hc]; exact this
  ·exact (hd.par.rest h12 p hp).pc
 have hlen2:((aeh e z.1).2.1.recs.length:Int)=(e.recs.length:Int):=by
  have h1:=(ho.lf.env.ok he).rcs.1
  have h2:=he.rcs.1
  rw [hc] at h1
  omega
 obtain ⟨r',h2⟩:=atG (e0:=e) x z.2 18446744073709551616 (K+1) (aeh e z.1).1 (aeh e z.1).2.1 (aeh e z.1).2.2 hc (by omega) (by omega) (ho.lf.env.ok he)
  ⟨ho.lf.fr,by rw [hc]; exact (hd.par.le (Nat.le_succ _)).ch ho.lf.kind,hpc⟩ ho.lf.val
  (fun e2 =>by
   have:=(ho.new (ho.lf.kind.symm.trans e2)).2.2
   omega)
 have e1:(z.2.reverse++[z.1]).length=z.2.reverse.length+1:=by simp
 have e2:z.2.reverse.length≤1000:=by simp; omega
 have hg:0≤(z.2.reverse.length:Int)∧(z.2.reverse.length:Int)<((z.2.reverse.length+1:Nat):Int):=by omega
 refine ⟨?_,?_⟩
 ·rw [h1]
  simp only [Option.bind_some,afL,e1,aoA e2,hg,and_self,if_true,arR,arQ,hleaf,aeO]
  rw [h2]
  generalize aiL (aeh e z.1).1 (aeh e z.1).2.1 (aeh e z.1).2.2 z.2=w
  rcases w with ⟨o,e',s⟩
  cases o<;>simp only [Option.bind_some,bkO]
 ·generalize aiL (aeh e z.1).1 (aeh e z.1).2.1 (aeh e z.1).2.2 z.2=w at hb
  rcases w with ⟨o,e',s⟩
  cases o with
  | some q =>exact ⟨hb.env,hb.c,hb.now,hb.draw,hb.len,.inl rfl⟩
  | none =>
   obtain ⟨t,q,h3,h4⟩:=hb.st rfl
   refine ⟨hb.env,hb.c,hb.now,hb.draw,hb.len,.inr ⟨t,q,?_,h4⟩⟩
   show s.reverse=_
   rw [show s=t::q from h3,List.reverse_cons]
end
end
section
open Go Go.RowKit
set_option maxRecDepth 100000
variable [Tb]
noncomputable def auv (x:EngV) (v:EntV):Option ((Unit)×(EngV×Unit)) :=
 if v.kind=0 then
  (aje v.value ((x.m.length:Nat):Int)).bind fun r1 =>
  if 0≤r1.1.1∧r1.1.1<((x.m.length:Nat):Int) then
   (adg (aif x.m r1.1.1) x.e).bind fun r2 =>
   if x.e.m.count<r2.2.2.1.m.count then
   (lpF (σ:=EngV×Unit) (β:=EngV×Unit) (fun self5 x3 =>
   if ((x3.1.stamps.length:Nat):Int)<((x3.1.e.evs.length:Nat):Int) then
   if (((x3.1.stamps.length+([x3.1.n]:List Int).length:Nat)):Int)<1000000000000 then
   self5 (({ x3.1 with stamps:=x3.1.stamps++([x3.1.n]) }:EngV),())
   else none
   else
   some (x3.1,())
   ) 18446744073709551616 (({ x with e:=r2.2.2.1,m:=x.m.set r1.1.1.toNat r2.2.1,last:=r2.2.2.1.m.last }:EngV),())).bind fun z4 =>
   some ((()),(({ z4.1 with n:=wi (z4.1.n+1) }:EngV),()))
   else
   (lpF (σ:=EngV×Unit) (β:=EngV×Unit) (fun self8 x6 =>
   if ((x6.1.stamps.length:Nat):Int)<((x6.1.e.evs.length:Nat):Int) then
   if (((x6.1.stamps.length+([x6.1.n]:List Int).length:Nat)):Int)<1000000000000 then
   self8 (({ x6.1 with stamps:=x6.1.stamps++([x6.1.n]) }:EngV),())
   else none
   else
   some (x6.1,())
   ) 18446744073709551616 (({ x with e:=r2.2.2.1,m:=x.m.set r1.1.1.toNat r2.2.1,last:=⟨0,0,0,0⟩ }:EngV),())).bind fun z7 =>
   some ((()),(({ z7.1 with n:=wi (z7.1.n+1) }:EngV),()))
  else none
 else
 if v.kind=1 then
  if x.e.m.count<x.e.m.count then
   (lpF (σ:=EngV×Unit) (β:=EngV×Unit) (fun self11 x9 =>
   if ((x9.1.stamps.length:Nat):Int)<((x9.1.e.evs.length:Nat):Int) then
   if (((x9.1.stamps.length+([x9.1.n]:List Int).length:Nat)):Int)<1000000000000 then
   self11 (({ x9.1 with stamps:=x9.1.stamps++([x9.1.n]) }:EngV),())
   else none
   else
   some (x9.1,())
   ) 18446744073709551616 (({ x with e:=({ x.e with now:=wi (x.e.now+1) }:EnvV),last:=x.e.m.last }:EngV),())).bind fun z10 =>
   some ((()),(({ z10.1 with n:=wi (z10.1.n+1) }:EngV),()))
  else
  (lpF (σ:=EngV×Unit) (β:=EngV×Unit) (fun self14 x12 =>
   if ((x12.1.stamps.length:Nat):Int)<((x12.1.e.evs.length:Nat):Int) then
   if (((x12.1.stamps.length+([x12.1.n]:List Int).length:Nat)):Int)<1000000000000 then
   self14 (({ x12.1 with stamps:=x12.1.stamps++([x12.1.n]) }:EngV),())
   else none
   else
   some (x12.1,())
  ) 18446744073709551616 (({ x with e:=({ x.e with now:=wi (x.e.now+1) }:EnvV),last:=⟨0,0,0,0⟩ }:EngV),())).bind fun z13 =>
  some ((()),(({ z13.1 with n:=wi (z13.1.n+1) }:EngV),()))
 else
 if v.kind=2 then
  if x.e.m.count<x.e.m.count then
   (lpF (σ:=EngV×Unit) (β:=EngV×Unit) (fun self17 x15 =>
   if ((x15.1.stamps.length:Nat):Int)<((x15.1.e.evs.length:Nat):Int) then
   if (((x15.1.stamps.length+([x15.1.n]:List Int).length:Nat)):Int)<1000000000000 then
   self17 (({ x15.1 with stamps:=x15.1.stamps++([x15.1.n]) }:EngV),())
   else none
   else
   some (x15.1,())
   ) 18446744073709551616 (({ x with e:=({ x.e with draw:=v.value }:EnvV),last:=x.e.m.last }:EngV),())).bind fun z16 =>
   some ((()),(({ z16.1 with n:=wi (z16.1.n+1) }:EngV),()))
  else
  (lpF (σ:=EngV×Unit) (β:=EngV×Unit) (fun self20 x18 =>
   if ((x18.1.stamps.length:Nat):Int)<((x18.1.e.evs.length:Nat):Int) then
   if (((x18.1.stamps.length+([x18.1.n]:List Int).length:Nat)):Int)<1000000000000 then
   self20 (({ x18.1 with stamps:=x18.1.stamps++([x18.1.n]) }:EngV),())
   else none
   else
   some (x18.1,())
  ) 18446744073709551616 (({ x with e:=({ x.e with draw:=v.value }:EnvV),last:=⟨0,0,0,0⟩ }:EngV),())).bind fun z19 =>
  some ((()),(({ z19.1 with n:=wi (z19.1.n+1) }:EngV),()))
 else
 if x.e.m.count<x.e.m.count then
  (lpF (σ:=EngV×Unit) (β:=EngV×Unit) (fun self23 x21 =>
   if ((x21.1.stamps.length:Nat):Int)<((x21.1.e.evs.length:Nat):Int) then
   if (((x21.1.stamps.length+([x21.1.n]:List Int).length:Nat)):Int)<1000000000000 then
   self23 (({ x21.1 with stamps:=x21.1.stamps++([x21.1.n]) }:EngV),())
   else none
   else
   some (x21.1,())
  ) 18446744073709551616 (({ x with last:=x.e.m.last }:EngV),())).bind fun z22 =>
  some ((()),(({ z22.1 with n:=wi (z22.1.n+1) }:EngV),()))
 else
 (lpF (σ:=EngV×Unit) (β:=EngV×Unit) (fun self26 x24 =>
  if ((x24.1.stamps.length:Nat):Int)<((x24.1.e.evs.length:Nat):Int) then
   if (((x24.1.stamps.length+([x24.1.n]:List Int).length:Nat)):Int)<1000000000000 then
   self26 (({ x24.1 with stamps:=x24.1.stamps++([x24.1.n]) }:EngV),())
   else none
  else
  some (x24.1,())
 ) 18446744073709551616 (({ x with last:=⟨0,0,0,0⟩ }:EngV),())).bind fun z25 =>
 some ((()),(({ z25.1 with n:=wi (z25.1.n+1) }:EngV),()))
noncomputable abbrev awe:Con SR1:=⟨27,[.ref 16,.val 5],[],fun x =>auv x.1 x.2.1⟩
theorem ay2:CO Tryz.prog awe:=abc abb Tryz.func27 [ahY,agW] ⟨ahr,ajS,trivial⟩ [] trivial (fun _ =>[]) [(12,.loop [.ob 0 16] 18446744073709551616 1)] fun x =>by kernel_rfl
noncomputable def apY (x:EngV) (l:List EntV):Option ((Unit)×(EngV×Unit)) :=
 (lpF (σ:=Int×EngV×Unit) (β:=Int×EngV×Unit) (fun self3 x1 =>
  if x1.1<((l.length:Nat):Int) then
   if 0≤x1.1∧x1.1<((l.length:Nat):Int) then
   (auv x1.2.1 (aEL l x1.1)).bind fun r4 =>
   self3 (wi (x1.1+1),r4.2.1,())
   else none
  else
  some (x1.1,x1.2.1,())
 ) 18446744073709551616 (0,x,())).bind fun z2 =>
 some ((()),(z2.2.1,()))
noncomputable abbrev asX:Con SR1:=⟨9,[.ref 16,.sh (.ro 5)],[],fun x =>apY x.1 x.2.1⟩
theorem awc:CO Tryz.prog asX:=abc abb Tryz.func9 [awe] ⟨ay2,trivial⟩ [] trivial (fun _ =>[]) [(1,.loop [.rg 4 sI_,.ob 0 16] 18446744073709551616 0)] fun x =>by kernel_rfl
noncomputable def asZ (c:Cfg):Option ((EngV×Unit)×(Unit)) :=
 (auk c).bind fun r1 =>
 (lpF (σ:=Int×EngV×Unit) (β:=Int×EngV×Unit) (fun self4 x2 =>
  if x2.1<c.workers then
   if c.tasks≠0 then
   (ai4 (⟨25,0,⟨0,0,0,0⟩,x2.1,0,0,0,(Int.tmod x2.1 c.tasks),0,0,0,0,0,0,[]⟩:FrV)).bind fun r5 =>
   if (((x2.2.1.m.length+([r5.1.1]:List MaV).length:Nat)):Int)<100000000000 then
   self4 (wi (x2.1+1),({ x2.2.1 with m:=x2.2.1.m++([r5.1.1]) }:EngV),())
   else none
   else none
  else
  some (x2.1,x2.2.1,())
 ) 18446744073709551616 (0,(⟨r1.1.1,[],0,[],⟨0,0,0,0⟩⟩:EngV),())).bind fun z3 =>
 (ai4 (⟨26,0,⟨0,0,0,0⟩,0,0,0,0,0,0,0,0,0,0,0,[]⟩:FrV)).bind fun r6 =>
 if (((z3.2.1.m.length+([r6.1.1]:List MaV).length:Nat)):Int)<100000000000 then
  some ((({ z3.2.1 with m:=z3.2.1.m++([r6.1.1]) }:EngV),()),())
 else none
noncomputable abbrev asY:Con SR1:=⟨8,[.val 13],[.sh (.own 16)],fun x =>asZ x.1⟩
theorem awd:CO Tryz.prog asY:=abc abb Tryz.func8 [av4,asU] ⟨ayY,av5,trivial⟩ [] trivial (fun _ =>[]) [(3,.loop [.rg 4 sI_,.rg 3 (.own 16)] 18446744073709551616 0)] fun x =>by kernel_rfl
end
section
open Go
def aeu (x:EngV) (v:EntV):EngV :=
 if v.kind=0 then { x with e:=(aib x.e (aif x.m (acs v.value x.m.length))).2.2,m:=x.m.set (acs v.value x.m.length).toNat (aib x.e (aif x.m (acs v.value x.m.length))).2.1 }
 else if v.kind=1 then { x with e:={ x.e with now:=wi (x.e.now+1) } }
 else if v.kind=2 then { x with e:={ x.e with draw:=v.value } }
 else x
def doM (x:EngV) (v:EntV):EngV :=
 { aeu x v with last:=if x.e.m.count<(aeu x v).e.m.count then (aeu x v).e.m.last else ⟨0,0,0,0⟩,stamps:=x.stamps++List.replicate ((aeu x v).e.evs.length-x.stamps.length) x.n,n:=wi (x.n+1) }
def aAt (x:EngV):List EntV→EngV
 | [] =>x
 | v::l =>aAt (doM x v) l
def ag5 (n:Int):Int:=if 0<(if 131072<n then 131072 else n) then (if 131072<n then 131072 else n) else 0
def aAI (c:Cfg):EnvV:=⟨c,⟨List.replicate (ag5 (ahE c)).toNat 0,⟨0,0,0,0⟩,0⟩,0,0,List.replicate c.tasks.toNat (akB 0 (-1)),[]⟩
def afO (c:Cfg) (w:Nat):FrV:={ frK 25 with line:=1,a:=w,j:=Int.tmod w c.tasks }
def aBZ (c:Cfg):EngV:=⟨aAI c,(List.range c.workers.toNat).map (fun w =>⟨[afO c w],false,0,0⟩)++[⟨[{ frK 26 with line:=1 }],false,0,0⟩],0,[],⟨0,0,0,0⟩⟩
structure EngP (K:Nat) (x:EngV):Prop where
 env:EnvOk K x.e
 ma:∀ y∈x.m,aCP K x.e.c y
 n1:1≤x.m.length
 n2:x.m.length≤100
 st:x.e.evs.length≤x.stamps.length
 sl:x.stamps.length≤K
 mono:x.stamps.Pairwise (·≤·)
 bd:∀ s∈x.stamps,0≤s∧s≤x.n
 n:0≤x.n∧x.n≤K
section
variable {K:Nat} {x:EngV}
noncomputable def stF (self:EngV×Unit→Option (EngV×Unit)) (x:EngV×Unit):Option (EngV×Unit) :=
 if ((x.1.stamps.length:Nat):Int)<((x.1.e.evs.length:Nat):Int) then
  if (((x.1.stamps.length+([x.1.n]:List Int).length:Nat)):Int)<1000000000000 then self (({ x.1 with stamps:=x.1.stamps++([x.1.n]) }:EngV),()) else none
 else some (x.1,())
noncomputable def tlF (y:EngV):Option ((Unit)×(EngV×Unit)):=(lpF stF 18446744073709551616 (y,())).bind fun z =>some ((()),(({ z.1 with n:=wi (z.1.n+1) }:EngV),()))
theorem aEh (x:EngV) (v:EntV):auv x v =
 if v.kind=0 then
  (aje v.value ((x.m.length:Nat):Int)).bind fun r1 =>
  if 0≤r1.1.1∧r1.1.1<((x.m.length:Nat):Int) then
   (adg (aif x.m r1.1.1) x.e).bind fun r2 =>
   if x.e.m.count<r2.2.2.1.m.count then tlF ({ x with e:=r2.2.2.1,m:=x.m.set r1.1.1.toNat r2.2.1,last:=r2.2.2.1.m.last }:EngV)
   else tlF ({ x with e:=r2.2.2.1,m:=x.m.set r1.1.1.toNat r2.2.1,last:=⟨0,0,0,0⟩ }:EngV)
  else none
 else if v.kind=1 then
  if x.e.m.count<x.e.m.count then tlF ({ x with e:=({ x.e with now:=wi (x.e.now+1) }:EnvV),last:=x.e.m.last }:EngV)
  else tlF ({ x with e:=({ x.e with now:=wi (x.e.now+1) }:EnvV),last:=⟨0,0,0,0⟩ }:EngV)
 else if v.kind=2 then
  if x.e.m.count<x.e.m.count then tlF ({ x with e:=({ x.e with draw:=v.value }:EnvV),last:=x.e.m.last }:EngV)
  else tlF ({ x with e:=({ x.e with draw:=v.value }:EnvV),last:=⟨0,0,0,0⟩ }:EngV)
 else
  if x.e.m.count<x.e.m.count then tlF ({ x with last:=x.e.m.last }:EngV) else tlF ({ x with last:=⟨0,0,0,0⟩ }:EngV):=by kernel_rfl
theorem aBk (G:EngV×Unit→Option (EngV×Unit)) (y:EngV) (h1:y.stamps.length<y.e.evs.length) (h2:y.stamps.length≤999999999):stF G (y,())=G (({ y with stamps:=y.stamps++[y.n] }:EngV),()):=by
 unfold stF
 have a1:((y.stamps.length:Nat):Int)<((y.e.evs.length:Nat):Int):=by omega
 have a2:(((y.stamps.length+([y.n]:List Int).length:Nat)):Int)<1000000000000:=by rw [List.length_singleton]; omega
 simp only [a1,a2,if_true]
theorem aDe (G:EngV×Unit→Option (EngV×Unit)) (y:EngV) (h1:y.e.evs.length≤y.stamps.length):stF G (y,())=some (y,()):=by
 unfold stF
 have a1:¬ ((y.stamps.length:Nat):Int)<((y.e.evs.length:Nat):Int):=by omega
 simp only [a1,if_false]
theorem atY:∀ (j k:Nat) (y:EngV),y.e.evs.length-y.stamps.length=j→j<k→y.e.evs.length≤999999999→lpF stF k (y,())=some (({ y with stamps:=y.stamps++List.replicate j y.n }:EngV),()):=by
 intro j
 induction j with
 | zero =>
  intro k y hj hk hl
  obtain ⟨k,rfl⟩:∃ k',k=k'+1:=⟨k-1,by omega⟩
  rw [ach,aDe _ y (by omega)]
  simp
 | succ j ih =>
  intro k y hj hk hl
  obtain ⟨k,rfl⟩:∃ k',k=k'+1:=⟨k-1,by omega⟩
  rw [ach,aBk _ y (by omega) (by omega)]
  have e1:y.e.evs.length-(y.stamps++[y.n]).length=j:=by rw [List.length_append,List.length_singleton]; omega
  rw [ih k ({ y with stamps:=y.stamps++[y.n] }:EngV) e1 (by omega) hl]
  simp [List.replicate_succ]
theorem EngP.le {L:Nat} (h:EngP K x) (hl:K≤L):EngP L x:=⟨h.env.le hl,fun y hy =>(h.ma y hy).le hl,h.n1,h.n2,h.st,Nat.le_trans h.sl hl,h.mono,h.bd,h.n.1,by have:=h.n.2; omega⟩
theorem EnvOk.nd {e e':EnvV} (h:EnvOk K e) (h1:e'.c=e.c) (h2:e'.recs=e.recs) (h3:e'.evs=e.evs) (h4:Rg e'.now) (h5:Rg e'.draw):EnvOk K e':=⟨h1▸h.cf,by rw [h1,h2]; exact h.rcs,by rw [h3]; exact h.evs,h4,h5⟩
theorem awt (h:EngP K x) (v:EntV):0≤acs v.value x.m.length∧acs v.value x.m.length<(x.m.length:Int):=aoV (by have:=h.n1; omega) (by have:=h.n2; omega)
theorem as4 (h:EngP K x) {v:EntV} (hv:Rg v.value) (hK1:1≤K) (hK:K≤700000000):EnvOk (K+5) (aeu x v).e∧(∀ y∈(aeu x v).m,aCP (K+5) x.e.c y)∧(aeu x v).m.length=x.m.length∧(aeu x v).e.c=x.e.c∧(aeu x v).stamps=x.stamps∧(aeu x v).n=x.n∧(aeu x v).e.m.cells.length=x.e.m.cells.length:=by
 have h5:=h.le (Nat.le_add_right K 5)
 unfold aeu
 split
 ·obtain ⟨_,hs⟩:=avl (h.ma _ (au2 (d:=dfR 15) (awt h v))) h.env hK1 (by omega)
  refine ⟨hs.env,fun y hy =>?_,by simp,hs.c,rfl,rfl,hs.len⟩
  rcases awJ hy with rfl | hy
  ·exact hs.ma
  ·exact h5.ma y hy
 split
 ·exact ⟨h5.env.nd rfl rfl rfl (aaP _) h.env.draw,h5.ma,rfl,rfl,rfl,rfl,rfl⟩
 split
 ·exact ⟨h5.env.nd rfl rfl rfl h.env.now hv,h5.ma,rfl,rfl,rfl,rfl,rfl⟩
 ·exact ⟨h5.env,h5.ma,rfl,rfl,rfl,rfl,rfl⟩
theorem aAS (h:EngP K x) {v:EntV} (hv:Rg v.value) (hK1:1≤K) (hK:K≤700000000):EngP (K+5) (doM x v)∧(doM x v).e.c=x.e.c∧(doM x v).m.length=x.m.length∧(doM x v).e.m.cells.length=x.e.m.cells.length:=by
 obtain ⟨h1,h2,h3,h4,h5,h6,h7⟩:=as4 h hv hK1 hK
 have hn:wi (x.n+1)=x.n+1:=acH (aam (by have:=h.n; omega))
 have hev:=h1.evs.1
 have hsl:=h.sl
 refine ⟨⟨h1,fun y hy =>by rw [show (doM x v).e.c=x.e.c from h4]; exact h2 y hy,h3▸h.n1,h3▸h.n2,?_,?_,?_,?_,?_⟩,h4,h3,h7⟩
 ·show (aeu x v).e.evs.length≤(x.stamps++List.replicate _ x.n).length
  simp; omega
 ·show (x.stamps++List.replicate _ x.n).length≤K+5
  simp; omega
 ·show (x.stamps++List.replicate _ x.n).Pairwise (·≤·)
  refine List.pairwise_append.2 ⟨h.mono,List.pairwise_replicate.2 (.inr (Int.le_refl _)),fun a ha b hb =>?_⟩
  rw [(List.mem_replicate.1 hb).2]; exact (h.bd a ha).2
 ·show ∀ s∈x.stamps++List.replicate _ x.n,0≤s∧s≤wi (x.n+1)
  intro s hs
  rw [hn]
  rcases List.mem_append.1 hs with hs | hs
  ·have:=h.bd s hs; omega
  ·rw [(List.mem_replicate.1 hs).2]; have:=h.n; omega
 ·show 0≤wi (x.n+1)∧wi (x.n+1)≤((K+5:Nat):Int)
  rw [hn]; have:=h.n; omega
theorem aCA (h:EngP K x) (y:EngV) (hy:y.e.evs.length≤K+5) (h1:y.n=x.n) (h2:y.stamps=x.stamps) (hK:K≤700000000) :
  tlF y=some ((()),(({ y with stamps:=x.stamps++List.replicate (y.e.evs.length-x.stamps.length) x.n,n:=wi (x.n+1) }:EngV),())):=by
 unfold tlF
 rw [atY (y.e.evs.length-y.stamps.length) 18446744073709551616 y rfl (by omega) (by omega)]
 simp only [Option.bind_some,h1,h2]
theorem aFE (h:EngP K x) {v:EntV} (hv:Rg v.value) (hK1:1≤K) (hK:K≤700000000):auv x v=some ((()),(doM x v,())):=by
 obtain ⟨q1,q2,q3,q4,q5,q6,_⟩:=as4 h hv hK1 hK
 have hev:=q1.evs.1
 have tl:∀ a:AccV,tlF { aeu x v with last:=a }=some ((()),(({ aeu x v with last:=a,stamps:=x.stamps++List.replicate ((aeu x v).e.evs.length-x.stamps.length) x.n,n:=wi (x.n+1) }:EngV),())):=fun a =>aCA h { aeu x v with last:=a } hev q6 q5 hK
 have hlt:¬ x.e.m.count<x.e.m.count:=by omega
 rw [aEh]
 unfold doM
 by_cases k0:v.kind=0
 ·have hi:=awt h v
  obtain ⟨hs,_⟩:=avl (h.ma _ (au2 (d:=dfR 15) hi)) h.env hK1 (by omega)
  have hp:aeu x v={ x with e:=(aib x.e (aif x.m (acs v.value x.m.length))).2.2,m:=x.m.set (acs v.value x.m.length).toNat (aib x.e (aif x.m (acs v.value x.m.length))).2.1 }:=by unfold aeu; rw [if_pos k0]
  have hs':adg (aif x.m (acs v.value ((x.m.length:Nat):Int))) x.e=some (((aib x.e (aif x.m (acs v.value x.m.length))).1,()),((aib x.e (aif x.m (acs v.value x.m.length))).2.1,(aib x.e (aif x.m (acs v.value x.m.length))).2.2,())):=hs
  rw [if_pos k0]
  simp only [abD,Option.bind_some,hs']
  rw [if_pos hi]
  rw [hp] at tl ⊢
  generalize aib x.e (aif x.m (acs v.value x.m.length))=w at tl ⊢
  by_cases hc:x.e.m.count<w.2.2.m.count
  ·rw [if_pos hc,if_pos hc]; exact tl _
  ·rw [if_neg hc,if_neg hc]; exact tl _
 rw [if_neg k0]
 by_cases k1:v.kind=1
 ·have hp:aeu x v={ x with e:={ x.e with now:=wi (x.e.now+1) } }:=by unfold aeu; rw [if_neg k0,if_pos k1]
  rw [if_pos k1,if_neg hlt]
  rw [hp] at tl ⊢
  rw [if_neg hlt]; exact tl _
 rw [if_neg k1]
 by_cases k2:v.kind=2
 ·have hp:aeu x v={ x with e:={ x.e with draw:=v.value } }:=by unfold aeu; rw [if_neg k0,if_neg k1,if_pos k2]
  rw [if_pos k2,if_neg hlt]
  rw [hp] at tl ⊢
  rw [if_neg hlt]; exact tl _
 rw [if_neg k2]
 have hp:aeu x v=x:=by unfold aeu; rw [if_neg k0,if_neg k1,if_neg k2]
 rw [if_neg hlt]
 rw [hp] at tl ⊢
 rw [if_neg hlt]; exact tl _
theorem ayJ:∀ (l:List EntV) (K:Nat) (x:EngV),EngP K x→(∀ v∈l,Rg v.value)→1≤K→K+5*l.length≤700000000→EngP (K+5*l.length) (aAt x l)∧(aAt x l).e.c=x.e.c∧(aAt x l).m.length=x.m.length∧(aAt x l).e.m.cells.length=x.e.m.cells.length:=by
 intro l
 induction l with
 | nil =>exact fun K x h _ _ _ =>⟨h,rfl,rfl,rfl⟩
 | cons v l ih =>
  intro K x h hv hK1 hK
  rw [List.length_cons] at hK
  obtain ⟨h1,h2,h3,h4⟩:=aAS h (hv v (List.mem_cons_self ..)) hK1 (by omega)
  obtain ⟨g1,g2,g3,g4⟩:=ih (K+5) (doM x v) h1 (fun u hu =>hv u (List.mem_cons_of_mem _ hu)) (by omega) (by omega)
  rw [List.length_cons,show K+5*(l.length+1)=K+5+5*l.length by omega]
  exact ⟨g1,g2.trans h2,g3.trans h3,g4.trans h4⟩
noncomputable def rnF (l0:List EntV) (self:Int×EngV×Unit→Option (Int×EngV×Unit)) (x:Int×EngV×Unit):Option (Int×EngV×Unit) :=
 if x.1<((l0.length:Nat):Int) then (if 0≤x.1∧x.1<((l0.length:Nat):Int) then (auv x.2.1 (aEL l0 x.1)).bind fun r =>self (wi (x.1+1),r.2.1,()) else none) else some (x.1,x.2.1,())
theorem aBu (x:EngV) (l:List EntV):apY x l=(lpF (rnF l) 18446744073709551616 (0,x,())).bind fun z2 =>some ((()),(z2.2.1,())):=by kernel_rfl
theorem aBE (l0:List EntV) (G:Int×EngV×Unit→Option (Int×EngV×Unit)) (i:Nat) (x:EngV) (v:EntV) (y:EngV) (h:l0[i]?=some v) (hl:l0.length≤1000000000) (hd:auv x v=some ((()),(y,()))):rnF l0 G ((i:Int),x,())=G (((i+1:Nat):Int),y,()):=by
 have hlt:=(List.getElem?_eq_some_iff.1 h).1
 have a1:(i:Int)<((l0.length:Nat):Int):=by omega
 have a2:0≤(i:Int)∧(i:Int)<((l0.length:Nat):Int):=by omega
 have hv0:aEL l0 (i:Int)=v:=by simp [aEL,atL,h]; rfl
 have e1:wi ((i:Int)+1)=((i+1:Nat):Int):=by rw [acH (aam (by omega))]; omega
 unfold rnF
 simp only [a1,a2,if_true,and_self,hv0,hd,Option.bind_some,e1]
theorem aDy (l0:List EntV) (G:Int×EngV×Unit→Option (Int×EngV×Unit)) (i:Nat) (x:EngV) (h:l0.length≤i):rnF l0 G ((i:Int),x,())=some ((i:Int),x,()):=by
 have a1:¬ (i:Int)<((l0.length:Nat):Int):=by omega
 unfold rnF
 simp only [a1,if_false]
theorem ayH {l0:List EntV} (hl0:l0.length≤1000000000) :
  ∀ (l:List EntV) (K n i:Nat) (x:EngV),EngP K x→(∀ v∈l,Rg v.value)→1≤K→K+5*l.length≤700000000→l0.drop i=l→i≤l0.length→l.length<n→lpF (rnF l0) n ((i:Int),x,())=some ((l0.length:Int),aAt x l,()):=by
 intro l
 induction l with
 | nil =>
  intro K n i x _ _ _ _ hd hi hn
  obtain ⟨n,rfl⟩:∃ k',n=k'+1:=⟨n-1,by simp at hn; omega⟩
  have h1:l0.length≤i:=List.drop_eq_nil_iff.1 hd
  rw [ach,aDy _ _ _ _ h1,show (i:Int)=(l0.length:Int) by omega]; rfl
 | cons v l ih =>
  intro K n i x h hv hK1 hK hd hi hn
  rw [List.length_cons] at hK hn
  obtain ⟨n,rfl⟩:∃ k',n=k'+1:=⟨n-1,by omega⟩
  have hlt:i<l0.length:=by
   rcases Nat.lt_or_ge i l0.length with h | h
   ·exact h
   ·rw [List.drop_eq_nil_iff.2 h] at hd; cases hd
  have hvi:l0[i]?=some v:=by rw [← List.head?_drop,hd]; rfl
  have hvr:=hv v (List.mem_cons_self ..)
  rw [ach,aBE l0 _ i x v _ hvi hl0 (aFE h hvr hK1 (by omega))]
  exact ih (K+5) n (i+1) (doM x v) (aAS h hvr hK1 (by omega)).1 (fun u hu =>hv u (List.mem_cons_of_mem _ hu)) (by omega) (by omega)
   (by rw [← List.drop_drop,hd]; rfl) (by omega) (by omega)
theorem run_eq' (h:EngP K x) {l:List EntV} (hv:∀ v∈l,Rg v.value) (hK1:1≤K) (hK:K+5*l.length≤700000000):apY x l=some ((()),(aAt x l,())):=by
 rw [aBu]
 have:=ayH (l0:=l) (by omega) l K 18446744073709551616 0 x h hv hK1 hK rfl (Nat.zero_le _) (by omega)
 rw [show ((0:Nat):Int)=0 from rfl] at this
 rw [this]; rfl
end
end
end Go.Proofs.YtjjbdbbmdhncjaaGreat
