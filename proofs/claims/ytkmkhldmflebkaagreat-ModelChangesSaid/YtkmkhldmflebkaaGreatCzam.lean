/- What always holds of the reference's machines,3: going back,the stack,a step. A step of the reference's machine is what was said plainly. The reference: the engine. The reference's engine,said plainly: a new one,an entry,entries,stamped events. The reference's engine,said plainly,2: a new one; stamped events. Scripts and configurations. What is decoded is valid. -/
import Derived.Test.YtkmkhldmflebkaaGreatCzal
import Derived.Test.YtkmkhldmflebkaaGreatCzak
import Derived.Test.YtkmkhldmflebkaaGreatCzai
import Derived.Test.YtkmkhldmflebkaaGreatCzah
set_option linter.all false
namespace Go.Proofs.YtkmkhldmflebkaaGreat
section
open Go
structure BackP (K:Nat) (e:EnvV) (f:FrV) (o:Lf):Prop where
 lf:LfP K e f o
 top:o.1.done=false→TopOk e.c o.2.2
section
variable {K:Nat} {e e':EnvV} {f:FrV} {code value:Int}
theorem BackP.of {o:Lf} (h:LfP K e f o) (h4:f.kind≠24) (h6:f.kind≠26) (h1:f.kind≠21):BackP K e f o :=
 ⟨h,fun _ =>adr (by rw [h.kind]; exact h4) (by rw [h.kind]; exact h6) (by rw [h.kind]; exact h1)⟩
theorem ass (h:FrR K f):LfP K e f (ast e f code):=by
 obtain ⟨ha_,hb_,hd_,hi_,hj_,hn_,ht_,hl_,hu_,hcap_,hln_⟩:=h.all
 unfold ast
 (repeat' split)<;>(refine ⟨?_,rfl,?_,?_⟩<;>(try dsimp only [go,fin])<;>first | (with_reducible first | assumption | exact aaG _ | exact aay _ | exact aaq _ | exact aae (by decide)) | exact EQ.of EP.refl | exact EQ.of EP.refl.ac | ((first | refine EQ.em EP.refl ?_ ?_ ?_ ?_ ?_ | refine EQ.em EP.refl.ac ?_ ?_ ?_ ?_ ?_ | constructor)<;>(try dsimp only)<;>with_reducible first | assumption | exact aaG _ | exact aay _ | exact aaq _ | exact aae (by decide)))
theorem ar8 (h:FrR K f) (hv:Rg value):LfP K e f (aou e f code value):=by
 obtain ⟨ha_,hb_,hd_,hi_,hj_,hn_,ht_,hl_,hu_,hcap_,hln_⟩:=h.all
 unfold aou
 (repeat' split)<;>(refine ⟨?_,rfl,?_,?_⟩<;>(try dsimp only [go,fin])<;>first | (with_reducible first | assumption | exact aaG _ | exact aay _ | exact aaq _ | exact aae (by decide)) | exact EQ.of EP.refl | exact EQ.of EP.refl.ac | ((first | refine EQ.em EP.refl ?_ ?_ ?_ ?_ ?_ | refine EQ.em EP.refl.ac ?_ ?_ ?_ ?_ ?_ | constructor)<;>(try dsimp only)<;>with_reducible first | assumption | exact aaG _ | exact aay _ | exact aaq _ | exact aae (by decide)))
theorem ard (h:FrR K f) (hv:Rg value):LfP K e f (ans e f code value):=by
 obtain ⟨ha_,hb_,hd_,hi_,hj_,hn_,ht_,hl_,hu_,hcap_,hln_⟩:=h.all
 unfold ans
 (repeat' split)<;>(refine ⟨?_,rfl,?_,?_⟩<;>(try dsimp only [go,fin])<;>first | (with_reducible first | assumption | exact aaG _ | exact aay _ | exact aaq _ | exact aae (by decide)) | exact EQ.of EP.refl | exact EQ.of EP.refl.ac | ((first | refine EQ.em EP.refl ?_ ?_ ?_ ?_ ?_ | refine EQ.em EP.refl.ac ?_ ?_ ?_ ?_ ?_ | constructor)<;>(try dsimp only)<;>with_reducible first | assumption | exact aaG _ | exact aay _ | exact aaq _ | exact aae (by decide)))
theorem anp (h:FrR K f) (hv:Rg value) (hc:CfgOk e.c):LfP K e f (aij e f code value):=by
 obtain ⟨ha_,hb_,hd_,hi_,hj_,hn_,ht_,hl_,hu_,hcap_,hln_⟩:=h.all
 have t2:=hc.t2
 have h1:Rg (Int.tmod (wi (f.j+1)) (if 1<e.c.tasks then e.c.tasks else 1)):=amf (by split<;>omega) (by split<;>omega)
 have h2:Rg (Int.tmod value 64):=amf (by decide) (by decide)
 unfold aij
 by_cases l1:f.line=1
 ·rw [if_pos l1]; (refine ⟨?_,rfl,?_,?_⟩<;>(try dsimp only [go,fin])<;>first | (with_reducible first | assumption | exact aaG _ | exact aay _ | exact aaq _ | exact aae (by decide)) | exact EQ.of EP.refl | exact EQ.of EP.refl.ac | ((first | refine EQ.em EP.refl ?_ ?_ ?_ ?_ ?_ | refine EQ.em EP.refl.ac ?_ ?_ ?_ ?_ ?_ | constructor)<;>(try dsimp only)<;>with_reducible first | assumption | exact aaG _ | exact aay _ | exact aaq _ | exact aae (by decide)))
 rw [if_neg l1]
 (repeat' split)<;>(refine ⟨?_,rfl,?_,?_⟩<;>(try dsimp only [go,fin])<;>first | (with_reducible first | assumption | exact aaG _ | exact aay _ | exact aaq _ | exact aae (by decide)) | exact EQ.of EP.refl | exact EQ.of EP.refl.ac | ((first | refine EQ.em EP.refl ?_ ?_ ?_ ?_ ?_ | refine EQ.em EP.refl.ac ?_ ?_ ?_ ?_ ?_ | constructor)<;>(try dsimp only)<;>with_reducible first | assumption | exact aaG _ | exact aay _ | exact aaq _ | exact aae (by decide)))
theorem adO {o:Lf} (hk:f.kind=26) (h:LfP K e f o) (hi:o.1.done=false→0≤o.2.2.i∧o.2.2.i≤(e.c.subs.length:Int)):BackP K e f o :=
 ⟨h,fun d =>⟨fun e' =>(by rw [h.kind,hk] at e'; cases e'),fun _ =>hi d,fun e' =>by rw [h.kind,hk] at e'; cases e'⟩⟩
theorem alX (h:FrR K f) (hk:f.kind=26) (hi:0≤f.i∧f.i<(e.c.subs.length:Int)) (hc:CfgOk e.c):BackP K e f (ajr e f):=by
 obtain ⟨ha_,hb_,hd_,hi_,hj_,hn_,ht_,hl_,hu_,hcap_,hln_⟩:=h.all
 have hsl:=hc.sl
 have e1:wi (f.i+1)=f.i+1:=aa2 (aae (by omega))
 unfold ajr
 rw [e1]
 have hr:Rg (f.i+1):=aae (by omega)
 split
 ·exact adO hk (by (refine ⟨?_,rfl,?_,?_⟩<;>(try dsimp only [go,fin])<;>first | (with_reducible first | assumption | exact aaG _ | exact aay _ | exact aaq _ | exact aae (by decide)) | exact EQ.of EP.refl | exact EQ.of EP.refl.ac | ((first | refine EQ.em EP.refl ?_ ?_ ?_ ?_ ?_ | refine EQ.em EP.refl.ac ?_ ?_ ?_ ?_ ?_ | constructor)<;>(try dsimp only)<;>with_reducible first | assumption | exact aaG _ | exact aay _ | exact aaq _ | exact aae (by decide)))) fun d =>by cases d
 ·exact adO hk (by (refine ⟨?_,rfl,?_,?_⟩<;>(try dsimp only [go,fin])<;>first | (with_reducible first | assumption | exact aaG _ | exact aay _ | exact aaq _ | exact aae (by decide)) | exact EQ.of EP.refl | exact EQ.of EP.refl.ac | ((first | refine EQ.em EP.refl ?_ ?_ ?_ ?_ ?_ | refine EQ.em EP.refl.ac ?_ ?_ ?_ ?_ ?_ | constructor)<;>(try dsimp only)<;>with_reducible first | assumption | exact aaG _ | exact aay _ | exact aaq _ | exact aae (by decide)))) fun _ =>by dsimp only [go]; omega
theorem apI {ch:FrV} (h:FrR K f) (he:EnvOk K e) (hv:Rg value) (hk:f.kind=26) (hp:ParOk e.c f ch) (h12:ch.kind=12→code=3∨(0≤value∧value<(e.recs.length:Int))):BackP K e f (ak5 e f code value):=by
 obtain ⟨ha_,hb_,hd_,hi_,hj_,hn_,ht_,hl_,hu_,hcap_,hln_⟩:=h.all
 have hc:=he.cf
 have w1:=hc.w1
 have w2:=hc.w2
 have hw:Rg e.c.workers:=aae (by omega)
 obtain ⟨i1,i2,i3⟩:=hp.cl hk
 have hsub:=hc.sub _ (alm (d:=dfR 4) (xs:=e.c.subs) (i:=f.i) ⟨i1,i2⟩)
 have hs1:Rg (e.sub f.i).level:=hsub.1
 have hi2:f.i≤(e.c.subs.length:Int):=Int.le_of_lt i2
 unfold ak5
 by_cases l1:f.line=1
 ·rw [if_pos l1]; exact adO hk (by (refine ⟨?_,rfl,?_,?_⟩<;>(try dsimp only [go,fin])<;>first | (with_reducible first | assumption | exact aaG _ | exact aay _ | exact aaq _ | exact aae (by decide)) | exact EQ.of EP.refl | exact EQ.of EP.refl.ac | ((first | refine EQ.em EP.refl ?_ ?_ ?_ ?_ ?_ | refine EQ.em EP.refl.ac ?_ ?_ ?_ ?_ ?_ | constructor)<;>(try dsimp only)<;>with_reducible first | assumption | exact aaG _ | exact aay _ | exact aaq _ | exact aae (by decide)))) fun _ =>⟨i1,hi2⟩
 rw [if_neg l1]
 by_cases l3:f.line=3
 ·rw [if_pos l3]
  split
  ·exact adO hk (by (refine ⟨?_,rfl,?_,?_⟩<;>(try dsimp only [go,fin])<;>first | (with_reducible first | assumption | exact aaG _ | exact aay _ | exact aaq _ | exact aae (by decide)) | exact EQ.of EP.refl | exact EQ.of EP.refl.ac | ((first | refine EQ.em EP.refl ?_ ?_ ?_ ?_ ?_ | refine EQ.em EP.refl.ac ?_ ?_ ?_ ?_ ?_ | constructor)<;>(try dsimp only)<;>with_reducible first | assumption | exact aaG _ | exact aay _ | exact aaq _ | exact aae (by decide)))) fun _ =>⟨i1,hi2⟩
  ·exact adO hk ⟨by dsimp only [go]; (constructor<;>(try dsimp only)<;>with_reducible first | assumption | exact aaG _ | exact aay _ | exact aaq _ | exact aae (by decide)),rfl,rg0,EQ.of (EP.refl.put fun _ =>⟨Nat.zero_le _,fun x hx =>by cases hx⟩)⟩ fun _ =>⟨i1,hi2⟩
 rw [if_neg l3]
 by_cases l6:f.line=6
 ·rw [if_pos l6]
  split
  ·exact adO hk (by (refine ⟨?_,rfl,?_,?_⟩<;>(try dsimp only [go,fin])<;>first | (with_reducible first | assumption | exact aaG _ | exact aay _ | exact aaq _ | exact aae (by decide)) | exact EQ.of EP.refl | exact EQ.of EP.refl.ac | ((first | refine EQ.em EP.refl ?_ ?_ ?_ ?_ ?_ | refine EQ.em EP.refl.ac ?_ ?_ ?_ ?_ ?_ | constructor)<;>(try dsimp only)<;>with_reducible first | assumption | exact aaG _ | exact aay _ | exact aaq _ | exact aae (by decide)))) fun _ =>⟨i1,hi2⟩
  ·exact adO hk (by (refine ⟨?_,rfl,?_,?_⟩<;>(try dsimp only [go,fin])<;>first | (with_reducible first | assumption | exact aaG _ | exact aay _ | exact aaq _ | exact aae (by decide)) | exact EQ.of EP.refl | exact EQ.of EP.refl.ac | ((first | refine EQ.em EP.refl ?_ ?_ ?_ ?_ ?_ | refine EQ.em EP.refl.ac ?_ ?_ ?_ ?_ ?_ | constructor)<;>(try dsimp only)<;>with_reducible first | assumption | exact aaG _ | exact aay _ | exact aaq _ | exact aae (by decide)))) fun _ =>⟨i1,hi2⟩
 rw [if_neg l6]
 split
 ·split
  ·exact adO hk (by (refine ⟨?_,rfl,?_,?_⟩<;>(try dsimp only [go,fin])<;>first | (with_reducible first | assumption | exact aaG _ | exact aay _ | exact aaq _ | exact aae (by decide)) | exact EQ.of EP.refl | exact EQ.of EP.refl.ac | ((first | refine EQ.em EP.refl ?_ ?_ ?_ ?_ ?_ | refine EQ.em EP.refl.ac ?_ ?_ ?_ ?_ ?_ | constructor)<;>(try dsimp only)<;>with_reducible first | assumption | exact aaG _ | exact aay _ | exact aaq _ | exact aae (by decide)))) fun _ =>⟨i1,hi2⟩
  ·exact alX h hk ⟨i1,i2⟩ hc
 ·exact alX h hk ⟨i1,i2⟩ hc
theorem adL {o:Lf} (hk:f.kind=24) (h:LfP K e f o) (ht:o.1.done=false→ala e.c o.2.2):BackP K e f o :=
 ⟨h,fun d =>⟨fun _ =>ht d,fun e' =>(by rw [h.kind,hk] at e'; cases e'),fun e' =>by rw [h.kind,hk] at e'; cases e'⟩⟩
theorem aAH (hc:CfgOk e.c) {t:Int} (h1:ann e t):Rg (e.ins t).a∧Rg (e.ins t).b:=by
 obtain ⟨p1,p2⟩:=h1
 have hp:=ann.prog ⟨p1,p2⟩
 have m1:e.prog t∈e.c.progs:=by rw [hp]; exact List.mem_of_getElem? (ab2 p1)
 have m2:e.ins t∈e.prog t:=List.mem_of_getElem? (ab2 (d:=dfR 3) p2)
 exact ⟨(hc.ins _ m1 _ m2).1,(hc.ins _ m1 _ m2).2.1⟩
theorem avJ {ch:FrV} (h:FrR K f) (he:EnvOk K e) (hv:Rg value) (hk:f.kind=24) (hp:ParOk e.c f ch) (hpc:PcP e f):BackP K e f (azQ e f code value):=by
 obtain ⟨ha_,hb_,hd_,hi_,hj_,hn_,ht_,hl_,hu_,hcap_,hln_⟩:=h.all
 obtain ⟨hl,ht,h5,h3,h23⟩:=hp.run hk
 have hT:=asv h
 have hrt:∀ (n:Int) (g:FrV),g.l=f.l→g.line=n→n≠3→n≠5→n≠23→ala e.c g:=fun n g e1 e2 a b d =>⟨by rw [e1]; exact hl,by rw [e2]; exact a,by rw [e2]; exact b,by rw [e2]; exact d,fun _ =>by rw [e1]; exact ht⟩
 have hr:∀ (k:Int),Rg k→asq K e.c e.recs→(aAC (e.rc (aa7 f.l)) k).kids.length≤K+1∧∀ x∈(aAC (e.rc (aa7 f.l)) k).kids,Rg x:=fun k hk hr =>by
  have:=asY hr (aa7 f.l)
  refine ⟨by simp [aAC]; exact this.1,fun x hx =>?_⟩
  rcases List.mem_append.1 hx with hx | hx
  ·exact this.2 x hx
  ·rw [List.mem_singleton] at hx; subst hx; exact hk
 unfold azQ
 by_cases l5:f.line=5
 ·rw [if_pos l5]
  have hi:=aAH he.cf (hpc hk l5)
  have hi2:=hi.2
  split
  ·refine adL hk ⟨by dsimp only [go]; (constructor<;>(try dsimp only)<;>with_reducible first | assumption | exact aaG _ | exact aay _ | exact aaq _ | exact aae (by decide)),rfl,rg0,EQ.em (EP.refl.put (hr (-1) (aae (by decide)))) ?_ ?_ ?_ ?_ ?_⟩ fun _ =>hrt 1 _ rfl rfl (by decide) (by decide) (by decide)
   all_goals (with_reducible first | assumption | exact aaG _ | exact aay _ | exact aaq _ | exact aae (by decide))
  ·refine adL hk ⟨by dsimp only [go]; (constructor<;>(try dsimp only)<;>with_reducible first | assumption | exact aaG _ | exact aay _ | exact aaq _ | exact aae (by decide)),rfl,rg0,EQ.of ((EP.refl.put (hr value hv)).put fun _ =>⟨Nat.zero_le _,fun x hx =>by cases hx⟩)⟩ fun _ =>hrt 6 _ rfl rfl (by decide) (by decide) (by decide)
 rw [if_neg l5]
 by_cases l6:f.line=6
 ·rw [if_pos l6]; exact adL hk (by (refine ⟨?_,rfl,?_,?_⟩<;>(try dsimp only [go,fin])<;>first | (with_reducible first | assumption | exact aaG _ | exact aay _ | exact aaq _ | exact aae (by decide)) | exact EQ.of EP.refl | exact EQ.of EP.refl.ac | ((first | refine EQ.em EP.refl ?_ ?_ ?_ ?_ ?_ | refine EQ.em EP.refl.ac ?_ ?_ ?_ ?_ ?_ | constructor)<;>(try dsimp only)<;>with_reducible first | assumption | exact aaG _ | exact aay _ | exact aaq _ | exact aae (by decide)))) fun _ =>hrt 7 _ rfl rfl (by decide) (by decide) (by decide)
 rw [if_neg l6]
 by_cases l7:f.line=7
 ·rw [if_pos l7]
  split
  ·exact adL hk (by (refine ⟨?_,rfl,?_,?_⟩<;>(try dsimp only [go,fin])<;>first | (with_reducible first | assumption | exact aaG _ | exact aay _ | exact aaq _ | exact aae (by decide)) | exact EQ.of EP.refl | exact EQ.of EP.refl.ac | ((first | refine EQ.em EP.refl ?_ ?_ ?_ ?_ ?_ | refine EQ.em EP.refl.ac ?_ ?_ ?_ ?_ ?_ | constructor)<;>(try dsimp only)<;>with_reducible first | assumption | exact aaG _ | exact aay _ | exact aaq _ | exact aae (by decide)))) fun _ =>hrt 9 _ rfl rfl (by decide) (by decide) (by decide)
  ·exact adL hk (by (refine ⟨?_,rfl,?_,?_⟩<;>(try dsimp only [go,fin])<;>first | (with_reducible first | assumption | exact aaG _ | exact aay _ | exact aaq _ | exact aae (by decide)) | exact EQ.of EP.refl | exact EQ.of EP.refl.ac | ((first | refine EQ.em EP.refl ?_ ?_ ?_ ?_ ?_ | refine EQ.em EP.refl.ac ?_ ?_ ?_ ?_ ?_ | constructor)<;>(try dsimp only)<;>with_reducible first | assumption | exact aaG _ | exact aay _ | exact aaq _ | exact aae (by decide)))) fun _ =>hrt 8 _ rfl rfl (by decide) (by decide) (by decide)
 rw [if_neg l7]
 by_cases l8:f.line=8
 ·rw [if_pos l8]; exact adL hk (by (refine ⟨?_,rfl,?_,?_⟩<;>(try dsimp only [go,fin])<;>first | (with_reducible first | assumption | exact aaG _ | exact aay _ | exact aaq _ | exact aae (by decide)) | exact EQ.of EP.refl | exact EQ.of EP.refl.ac | ((first | refine EQ.em EP.refl ?_ ?_ ?_ ?_ ?_ | refine EQ.em EP.refl.ac ?_ ?_ ?_ ?_ ?_ | constructor)<;>(try dsimp only)<;>with_reducible first | assumption | exact aaG _ | exact aay _ | exact aaq _ | exact aae (by decide)))) fun _ =>hrt 1 _ rfl rfl (by decide) (by decide) (by decide)
 rw [if_neg l8]
 by_cases l9:f.line=9
 ·rw [if_pos l9]
  split
  ·have hln:(f.l++[f.n]).length≤K+1:=by have:=h.ln; simp; omega
   have hll:∀ x∈f.l++[f.n],Rg x:=fun x hx =>by
    rcases List.mem_append.1 hx with hx | hx
    ·exact h.l x hx
    ·rw [List.mem_singleton] at hx; subst hx; exact h.n
   exact adL hk (by (refine ⟨?_,rfl,?_,?_⟩<;>(try dsimp only [go,fin])<;>first | (with_reducible first | assumption | exact aaG _ | exact aay _ | exact aaq _ | exact aae (by decide)) | exact EQ.of EP.refl | exact EQ.of EP.refl.ac | ((first | refine EQ.em EP.refl ?_ ?_ ?_ ?_ ?_ | refine EQ.em EP.refl.ac ?_ ?_ ?_ ?_ ?_ | constructor)<;>(try dsimp only)<;>with_reducible first | assumption | exact aaG _ | exact aay _ | exact aaq _ | exact aae (by decide)))) fun _ =>⟨by simp [go],by simp [go],by simp [go],by simp [go],fun e =>absurd rfl e⟩
  ·exact adL hk (by (refine ⟨?_,rfl,?_,?_⟩<;>(try dsimp only [go,fin])<;>first | (with_reducible first | assumption | exact aaG _ | exact aay _ | exact aaq _ | exact aae (by decide)) | exact EQ.of EP.refl | exact EQ.of EP.refl.ac | ((first | refine EQ.em EP.refl ?_ ?_ ?_ ?_ ?_ | refine EQ.em EP.refl.ac ?_ ?_ ?_ ?_ ?_ | constructor)<;>(try dsimp only)<;>with_reducible first | assumption | exact aaG _ | exact aay _ | exact aaq _ | exact aae (by decide)))) fun _ =>hrt 1 _ rfl rfl (by decide) (by decide) (by decide)
 rw [if_neg l9]
 by_cases l14:f.line=14
 ·rw [if_pos l14]
  have:=ag5 (e:=e) h (EQ.em (e':=e) (k:=7) (w:=f.a) (t:=aa7 f.l) (o:=0) (l:=f.t) EP.refl (aae (by decide)) h.a hT rg0 h.t)
  exact adL hk this.1 (this.2 hl)
 rw [if_neg l14]
 by_cases l20:f.line=20
 ·rw [if_pos l20]
  split
  ·exact adL hk (by (refine ⟨?_,rfl,?_,?_⟩<;>(try dsimp only [go,fin])<;>first | (with_reducible first | assumption | exact aaG _ | exact aay _ | exact aaq _ | exact aae (by decide)) | exact EQ.of EP.refl | exact EQ.of EP.refl.ac | ((first | refine EQ.em EP.refl ?_ ?_ ?_ ?_ ?_ | refine EQ.em EP.refl.ac ?_ ?_ ?_ ?_ ?_ | constructor)<;>(try dsimp only)<;>with_reducible first | assumption | exact aaG _ | exact aay _ | exact aaq _ | exact aae (by decide)))) fun _ =>hrt 22 _ rfl rfl (by decide) (by decide) (by decide)
  ·exact adL hk (by (refine ⟨?_,rfl,?_,?_⟩<;>(try dsimp only [go,fin])<;>first | (with_reducible first | assumption | exact aaG _ | exact aay _ | exact aaq _ | exact aae (by decide)) | exact EQ.of EP.refl | exact EQ.of EP.refl.ac | ((first | refine EQ.em EP.refl ?_ ?_ ?_ ?_ ?_ | refine EQ.em EP.refl.ac ?_ ?_ ?_ ?_ ?_ | constructor)<;>(try dsimp only)<;>with_reducible first | assumption | exact aaG _ | exact aay _ | exact aaq _ | exact aae (by decide)))) fun _ =>hrt 21 _ rfl rfl (by decide) (by decide) (by decide)
 rw [if_neg l20]
 by_cases l21:f.line=21
 ·rw [if_pos l21]
  have:=ag5 (e:=e) h (EQ.of EP.refl)
  exact adL hk this.1 (this.2 hl)
 rw [if_neg l21]
 by_cases l22:f.line=22
 ·rw [if_pos l22]
  split
  ·have hln:(f.l.dropLast++[f.n]).length≤K+1:=by have:=h.ln; simp; omega
   have hll:∀ x∈f.l.dropLast++[f.n],Rg x:=fun x hx =>by
    rcases List.mem_append.1 hx with hx | hx
    ·exact h.l x (List.mem_of_mem_take (by rw [List.dropLast_eq_take] at hx; exact hx))
    ·rw [List.mem_singleton] at hx; subst hx; exact h.n
   exact adL hk (by (refine ⟨?_,rfl,?_,?_⟩<;>(try dsimp only [go,fin])<;>first | (with_reducible first | assumption | exact aaG _ | exact aay _ | exact aaq _ | exact aae (by decide)) | exact EQ.of EP.refl | exact EQ.of EP.refl.ac | ((first | refine EQ.em EP.refl ?_ ?_ ?_ ?_ ?_ | refine EQ.em EP.refl.ac ?_ ?_ ?_ ?_ ?_ | constructor)<;>(try dsimp only)<;>with_reducible first | assumption | exact aaG _ | exact aay _ | exact aaq _ | exact aae (by decide)))) fun _ =>⟨by simp [go],by simp [go],by simp [go],by simp [go],fun e =>absurd rfl e⟩
  ·have:=ag5 (e:=e) h (EQ.of EP.refl)
   exact adL hk this.1 (this.2 hl)
 rw [if_neg l22]
 exact adL hk ⟨h.up,rfl,rg0,EQ.of EP.refl⟩ fun _ =>⟨hl,h3,l5,h23,fun _ =>ht⟩
theorem aq3 {ch:FrV} (h:FrR K f) (he:EnvOk K e) (hcd:True) (hv:Rg value) (hp:ParOk e.c f ch) (hpc:PcP e f) (h12:ch.kind=12→code=3∨(0≤value∧value<(e.recs.length:Int))):BackP K e f (ahK e f code value):=by
 obtain ⟨ha_,hb_,hd_,hi_,hj_,hn_,ht_,hl_,hu_,hcap_,hln_⟩:=h.all
 unfold ahK
 by_cases k5:f.kind=5
 ·rw [if_pos k5]
  refine BackP.of ?_ (by rw [k5]; decide) (by rw [k5]; decide) (by rw [k5]; decide)
  (repeat' split)<;>(refine ⟨?_,rfl,?_,?_⟩<;>(try dsimp only [go,fin])<;>first | (with_reducible first | assumption | exact aaG _ | exact aay _ | exact aaq _ | exact aae (by decide)) | exact EQ.of EP.refl | exact EQ.of EP.refl.ac | ((first | refine EQ.em EP.refl ?_ ?_ ?_ ?_ ?_ | refine EQ.em EP.refl.ac ?_ ?_ ?_ ?_ ?_ | constructor)<;>(try dsimp only)<;>with_reducible first | assumption | exact aaG _ | exact aay _ | exact aaq _ | exact aae (by decide)))
 rw [if_neg k5]
 by_cases k6:f.kind=6
 ·rw [if_pos k6]
  refine BackP.of ?_ (by rw [k6]; decide) (by rw [k6]; decide) (by rw [k6]; decide)
  (repeat' split)<;>(refine ⟨?_,rfl,?_,?_⟩<;>(try dsimp only [go,fin])<;>first | (with_reducible first | assumption | exact aaG _ | exact aay _ | exact aaq _ | exact aae (by decide)) | exact EQ.of EP.refl | exact EQ.of EP.refl.ac | ((first | refine EQ.em EP.refl ?_ ?_ ?_ ?_ ?_ | refine EQ.em EP.refl.ac ?_ ?_ ?_ ?_ ?_ | constructor)<;>(try dsimp only)<;>with_reducible first | assumption | exact aaG _ | exact aay _ | exact aaq _ | exact aae (by decide)))
 rw [if_neg k6]
 by_cases k15:f.kind=15
 ·rw [if_pos k15]
  exact BackP.of ⟨h.up,rfl,h.t,EQ.of EP.refl⟩ (by rw [k15]; decide) (by rw [k15]; decide) (by rw [k15]; decide)
 rw [if_neg k15]
 by_cases k17:f.kind=17
 ·rw [if_pos k17]; exact BackP.of (ass h) (by rw [k17]; decide) (by rw [k17]; decide) (by rw [k17]; decide)
 rw [if_neg k17]
 by_cases k18:f.kind=18
 ·rw [if_pos k18]
  refine BackP.of ?_ (by rw [k18]; decide) (by rw [k18]; decide) (by rw [k18]; decide)
  (repeat' split)<;>(refine ⟨?_,rfl,?_,?_⟩<;>(try dsimp only [go,fin])<;>first | (with_reducible first | assumption | exact aaG _ | exact aay _ | exact aaq _ | exact aae (by decide)) | exact EQ.of EP.refl | exact EQ.of EP.refl.ac | ((first | refine EQ.em EP.refl ?_ ?_ ?_ ?_ ?_ | refine EQ.em EP.refl.ac ?_ ?_ ?_ ?_ ?_ | constructor)<;>(try dsimp only)<;>with_reducible first | assumption | exact aaG _ | exact aay _ | exact aaq _ | exact aae (by decide)))
 rw [if_neg k18]
 by_cases k22:f.kind=22
 ·rw [if_pos k22]; exact BackP.of (ar8 h hv) (by rw [k22]; decide) (by rw [k22]; decide) (by rw [k22]; decide)
 rw [if_neg k22]
 by_cases k23:f.kind=23
 ·rw [if_pos k23]; exact BackP.of (ard h hv) (by rw [k23]; decide) (by rw [k23]; decide) (by rw [k23]; decide)
 rw [if_neg k23]
 by_cases k24:f.kind=24
 ·rw [if_pos k24]; exact avJ h he hv k24 hp hpc
 rw [if_neg k24]
 by_cases k25:f.kind=25
 ·rw [if_pos k25]; exact BackP.of (anp h hv he.cf) (by rw [k25]; decide) (by rw [k25]; decide) (by rw [k25]; decide)
 rw [if_neg k25]
 by_cases k26:f.kind=26
 ·rw [if_pos k26]; exact apI h he hv k26 hp h12
 rw [if_neg k26]
 have h0:=hp.rk
 unfold anl at h0
 exfalso
 (repeat' split at h0)<;>omega
theorem ParOk.pre {ch:FrV} (hp:ParOk e.c f ch) (h:FrR K f) (he:EnvOk K e) (hpc:PcP e f) (hK:K≤900000000) (h12:ch.kind=12→code=3∨(0≤value∧value<(e.recs.length:Int))):BackC e f code value:=⟨he.cf,he.fit hK,fun hk =>by
  obtain ⟨h1,h2,h3,h4,h5⟩:=hp.run hk
  refine ⟨⟨⟨h1,by have:=h.ln; omega⟩,by have:=he.rcs.1; exact ⟨by omega,by omega⟩⟩,fun l5 =>⟨hpc hk l5,by have:=(asY he.rcs (aa7 f.l)).1; omega,fun hcode =>(h12 (h3 l5)).resolve_left hcode⟩⟩,fun hk =>by
  obtain ⟨h1,h2,h3⟩:=hp.cl hk
  exact ⟨⟨h1,h2⟩,fun l3 hcode =>(h12 (h3 l3)).resolve_left hcode⟩⟩
end
def Par (K:Nat) (c:Cfg):List FrV→FrV→Prop
 | [],_ =>True
 | p::ps,ch =>ParOk c p ch∧FrR K p∧Par K c ps p
def aA6 (p:FrV):Prop:=¬ (p.kind=24∧p.line=5)
section
variable {K:Nat} {c:Cfg}
theorem ParOk.ch {p a b:FrV} (h:ParOk c p a) (e:b.kind=a.kind):ParOk c p b:=⟨by rw [e]; exact h.rk,by rw [e]; exact h.run,by rw [e]; exact h.cl⟩
theorem Par.ch {ps:List FrV} {a b:FrV} (h:Par K c ps a) (e:b.kind=a.kind):Par K c ps b:=by
 cases ps with
 | nil =>trivial
 | cons p ps =>exact ⟨h.1.ch e,h.2⟩
theorem Par.le {L:Nat}:∀ {ps:List FrV} {a:FrV},Par K c ps a→K≤L→Par L c ps a
 | [],_,_,_ =>trivial
 | _::_,_,h,hl =>⟨h.1,h.2.1.le hl,h.2.2.le hl⟩
theorem Par.len:∀ {ps:List FrV} {a:FrV},Par K c ps a→ps.length+anl a.kind≤4
 | [],a,_ =>by have:=aoW a.kind; simp; omega
 | p::ps,a,h =>by
  have h1:=h.1.rk
  have h2:=h.2.2.len
  simp; omega
theorem Par.rest:∀ {ps:List FrV} {a:FrV},Par K c ps a→a.kind≠12→∀ p∈ps,aA6 p
 | [],_,_,_,p,hp =>by cases hp
 | q::ps,a,h,ha,p,hp =>by
  rcases List.mem_cons.1 hp with rfl | hp
  ·exact fun e =>ha ((h.1.run e.1).2.2.1 e.2)
  ·refine h.2.2.rest (fun e =>?_) p hp
   have:=h.1.rk
   rw [e] at this
   simp [anl] at this
theorem aA6.pc {e:EnvV} {p:FrV} (h:aA6 p):PcP e p:=fun e1 e2 =>absurd ⟨e1,e2⟩ h
structure DeepP (K:Nat) (e:EnvV) (top:FrV) (ps:List FrV):Prop where
 fr:FrR K top
 par:Par K e.c ps top
 pc:∀ p∈ps,PcP e p
theorem aju {e:EnvV} (he:EnvOk K e) (hK1:1≤K):∀ (k:Nat) (top:FrV) (ps:List FrV),DeepP K e top ps→TopOk e.c top→anl top.kind<k→DeepP K e (afA e k top ps).1 (afA e k top ps).2∧LiveOk e (afA e k top ps).1
 | 0,_,_,_,_,h =>by omega
 | k+1,top,ps,hx,ht,hk =>by
  have ho:=aor hx.fr he ht hK1
  rw [afA]
  rcases hM:aiO e top with ⟨o,f'⟩
  rw [hM] at ho
  have ho1:=ho.fr
  have ho2:=ho.kind
  cases o with
  | none =>exact ⟨⟨ho1,hx.par.ch ho2,hx.pc⟩,ho.no rfl⟩
  | some ch =>
   obtain ⟨h1,h2,h3,h4⟩:=ho.yes ch rfl
   refine aju he hK1 k _ _ ⟨h1,⟨h3.ch rfl,ho1,hx.par.ch ho2⟩,fun p hp =>?_⟩ h2 ?_
   ·rcases List.mem_cons.1 hp with rfl | hp
    ·exact h4
    ·exact hx.pc p hp
   ·have h5:=h3.rk
    rw [ho2] at h5
    show anl ch.kind<k
    omega
structure StOk (K:Nat) (c:Cfg) (t:FrV) (ps:List FrV):Prop where
 fr:FrR K t
 top:TopOk c t
 par:Par K c ps t
 rest:∀ p∈ps,aA6 p
theorem StOk.le {L:Nat} {top:FrV} {ps:List FrV} (h:StOk K c top ps) (hl:K≤L):StOk L c top ps:=⟨h.fr.le hl,h.top,h.par.le hl,h.rest⟩
structure BkP (K:Nat) (e:EnvV) (o:Option ResV×EnvV×List FrV):Prop where
 env:EnvOk K o.2.1
 c:o.2.1.c=e.c
 now:o.2.1.now=e.now
 draw:o.2.1.draw=e.draw
 len:o.2.1.m.cells.length=e.m.cells.length
 st:o.1=none→∃ top ps,o.2.2=top::ps∧StOk K e.c top ps
theorem aoA {e0:EnvV}:∀ (ps:List FrV) (L:Nat) (r:ResV) (e:EnvV) (top:FrV),e.c=e0.c→e.now=e0.now→e.draw=e0.draw→e.m.cells.length=e0.m.cells.length →
  EnvOk L e→DeepP L e top ps→Rg r.value→(r.done=false→TopOk e.c top∧∀ p∈ps,aA6 p)→(top.kind=12→r.code=3∨(0≤r.value∧r.value<(e.recs.length:Int)))→BkP (L+ps.length) e0 (alk r e top ps)
 | [],L,r,e,top,c1,c2,c3,c4,he,hx,hv,ht,h12 =>by
  rw [alk]
  by_cases hd:r.done=true
  ·rw [if_pos hd]; exact ⟨he,c1,c2,c3,c4,fun e =>by cases e⟩
  ·rw [if_neg hd]
   have:=ht (by simpa using hd)
   exact ⟨he,c1,c2,c3,c4,fun _ =>⟨top,[],rfl,hx.fr,c1▸this.1,trivial,fun p hp =>by cases hp⟩⟩
 | p::ps,L,r,e,top,c1,c2,c3,c4,he,hx,hv,ht,h12 =>by
  rw [alk]
  by_cases hd:r.done=true
  ·rw [if_pos hd]
   have ho:=aq3 (code:=r.code) hx.par.2.1 he trivial hv hx.par.1 (hx.pc p (List.mem_cons_self ..)) h12
   have hpk:p.kind≠12:=fun e =>by
    have:=hx.par.1.rk
    rw [e] at this
    simp [anl] at this
   have hrest:=hx.par.2.2.rest hpk
   have hc:=ho.lf.env.c
   have hg:=aoA (e0:=e0) ps (L+1) (ahK e p r.code r.value).1 (ahK e p r.code r.value).2.1 (ahK e p r.code r.value).2.2 (hc.trans c1) (ho.lf.env.now.trans c2) (ho.lf.env.draw.trans c3) (ho.lf.env.len.trans c4) (ho.lf.env.ok he)
    ⟨ho.lf.fr,by rw [hc]; exact (hx.par.2.2.le (Nat.le_succ _)).ch ho.lf.kind,fun q hq =>(hrest q hq).pc⟩ ho.lf.val (fun e =>⟨by rw [hc]; exact ho.top e,hrest⟩) (fun e =>absurd (ho.lf.kind.symm.trans e) hpk)
   rw [show L+(p::ps).length=L+1+ps.length by simp; omega]
   exact hg
  ·rw [if_neg hd]
   have:=ht (by simpa using hd)
   exact ⟨he.le (Nat.le_add_right _ _),c1,c2,c3,c4,fun _ =>⟨top,p::ps,rfl,hx.fr.le (Nat.le_add_right _ _),c1▸this.1,c1▸hx.par.le (Nat.le_add_right _ _),this.2⟩⟩
theorem asC {e:EnvV} {top:FrV} {ps:List FrV} (hx:StOk K e.c top ps) (he:EnvOk K e) (hK1:1≤K):BkP (K+5) e (avv e top ps):=by
 unfold avv
 obtain ⟨hd,hl⟩:=aju he hK1 8 top ps ⟨hx.fr,hx.par,fun p hp =>(hx.rest p hp).pc⟩ hx.top (by have:=aoW top.kind; omega)
 generalize afA e 8 top ps=z at hd hl
 have ho:=aqG hd.fr he hl
 have hlen:=hd.par.len
 have hc:=ho.lf.env.c
 have hpc:∀ p∈z.2,PcP (afi e z.1).2.1 p:=fun p hp =>by
  by_cases h12:z.1.kind=12
  ·have h1:=(ho.new h12).2.1
   intro a b
   have:=hd.pc p hp a b
   unfold ann EnvV.prog EnvV.rc at this ⊢
   rw [h1,hc]; exact this
  ·exact (hd.par.rest h12 p hp).pc
 have hlen2:((afi e z.1).2.1.recs.length:Int)=(e.recs.length:Int):=by
  have h1:=(ho.lf.env.ok he).rcs.1
  have h2:=he.rcs.1
  rw [hc] at h1
  omega
 have hb:=aoA (e0:=e) z.2 (K+1) (afi e z.1).1 (afi e z.1).2.1 (afi e z.1).2.2 hc ho.lf.env.now ho.lf.env.draw ho.lf.env.len (ho.lf.env.ok he)
  ⟨ho.lf.fr,by rw [hc]; exact (hd.par.le (Nat.le_succ _)).ch ho.lf.kind,hpc⟩ ho.lf.val (fun d =>⟨by rw [hc]; exact ho.top d,hd.par.rest fun h12 =>by have:=(ho.new h12).1; rw [d] at this; cases this⟩)
  (fun e2 =>by
   have:=(ho.new (ho.lf.kind.symm.trans e2)).2.2
   omega)
 have hKK:K+1+z.2.length≤K+5:=by omega
 exact ⟨hb.env.le hKK,hb.c,hb.now,hb.draw,hb.len,fun e1 =>by
  obtain ⟨t,q,h1,h2⟩:=hb.st e1
  exact ⟨t,q,h1,h2.le hKK⟩⟩
end
noncomputable def enF (self3:MaV×EnvV×Unit→Option (MaV×EnvV×Unit)) (x1:MaV×EnvV×Unit):Option (MaV×EnvV×Unit) :=
  if 0≤wi (((x1.1.f.length:Nat):Int)-1)∧wi (((x1.1.f.length:Nat):Int)-1)<((x1.1.f.length:Nat):Int) then
   agr (
    (ah1 x1.2.1 (asf x1.1.f (wi (((x1.1.f.length:Nat):Int)-1)))).bind fun r5 =>
    if (!r5.1.2.1)=true then
     some (({ x1.1 with f:=x1.1.f.set (wi (((x1.1.f.length:Nat):Int)-1)).toNat r5.2.2.1 }:MaV),r5.2.1,())
    else
    if ((((x1.1.f.set (wi (((x1.1.f.length:Nat):Int)-1)).toNat r5.2.2.1).length+([({ r5.1.1 with line:=1 }:FrV)]:List FrV).length:Nat)):Int)<100000000000 then
     self3 (({ x1.1 with f:=(x1.1.f.set (wi (((x1.1.f.length:Nat):Int)-1)).toNat r5.2.2.1)++([({ r5.1.1 with line:=1 }:FrV)]) }:MaV),r5.2.1,())
    else none
   ) (
    (ah1 x1.2.1 (asf x1.1.f (wi (((x1.1.f.length:Nat):Int)-1)))).bind fun r4 =>
    if (!r4.1.2.1)=true then
     some (({ x1.1 with f:=x1.1.f.set (wi (((x1.1.f.length:Nat):Int)-1)).toNat r4.2.2.1 }:MaV),r4.2.1,())
    else
    if ((((x1.1.f.set (wi (((x1.1.f.length:Nat):Int)-1)).toNat r4.2.2.1).length+([({ r4.1.1 with line:=1 }:FrV)]:List FrV).length:Nat)):Int)<100000000000 then
     self3 (({ x1.1 with f:=(x1.1.f.set (wi (((x1.1.f.length:Nat):Int)-1)).toNat r4.2.2.1)++([({ r4.1.1 with line:=1 }:FrV)]) }:MaV),r4.2.1,())
    else none
   )
  else none
noncomputable def bkF (self15:ResV×MaV×EnvV×Unit→Option ((ResV×MaV×EnvV×Unit)⊕((Bool×Unit)×(MaV×EnvV×Unit)))) (x13:ResV×MaV×EnvV×Unit):Option ((ResV×MaV×EnvV×Unit)⊕((Bool×Unit)×(MaV×EnvV×Unit))) :=
    if x13.1.done=true then
     if 0≤wi (((x13.2.1.f.length:Nat):Int)-1)∧wi (((x13.2.1.f.length:Nat):Int)-1)≤((x13.2.1.f.length:Nat):Int) then
      if (((x13.2.1.f.take (wi (((x13.2.1.f.length:Nat):Int)-1):Int).toNat).length:Nat):Int)=0 then
       if x13.1.value=x13.1.value then
        if x13.1.code=x13.1.code then
         if x13.1.value=x13.1.value then
          Option.map Sum.inr (
           some ((true,()),(({ x13.1 with f:=x13.2.1.f.take (wi (((x13.2.1.f.length:Nat):Int)-1):Int).toNat,over:=true }:MaV),x13.2.2.1,()))
          )
         else none
        else none
       else none
      else
      if 0≤wi ((((x13.2.1.f.take (wi (((x13.2.1.f.length:Nat):Int)-1):Int).toNat).length:Nat):Int)-1)∧wi ((((x13.2.1.f.take (wi (((x13.2.1.f.length:Nat):Int)-1):Int).toNat).length:Nat):Int)-1)<(((x13.2.1.f.take (wi (((x13.2.1.f.length:Nat):Int)-1):Int).toNat).length:Nat):Int) then
       (alF x13.2.2.1 (asf (x13.2.1.f.take (wi (((x13.2.1.f.length:Nat):Int)-1):Int).toNat) (wi ((((x13.2.1.f.take (wi (((x13.2.1.f.length:Nat):Int)-1):Int).toNat).length:Nat):Int)-1))) x13.1.code x13.1.value).bind fun r16 =>
       self15 (r16.1.1,({ x13.2.1 with f:=(x13.2.1.f.take (wi (((x13.2.1.f.length:Nat):Int)-1):Int).toNat).set (wi ((((x13.2.1.f.take (wi (((x13.2.1.f.length:Nat):Int)-1):Int).toNat).length:Nat):Int)-1)).toNat r16.2.2.1 }:MaV),r16.2.1,())
      else none
     else none
    else
    some (Sum.inl (x13.1,x13.2.1,x13.2.2.1,()))
theorem avt (m:MaV) (e:EnvV):ac2 m e=if m.over=true then some ((true,()),(m,e,())) else
    (lpF enF 18446744073709551616 (m,e,())).bind fun z2 =>
      if 0≤wi (((z2.1.f.length:Nat):Int)-1)∧wi (((z2.1.f.length:Nat):Int)-1)<((z2.1.f.length:Nat):Int) then
        agr ((aks z2.2.1 (asf z2.1.f (wi (((z2.1.f.length:Nat):Int)-1)))).bind fun r12 =>
          (lpF bkF 18446744073709551616 (r12.1.1,({ z2.1 with f:=z2.1.f.set (wi (((z2.1.f.length:Nat):Int)-1)).toNat r12.2.2.1 }:MaV),r12.2.1,())).bind fun z14 =>match z14 with
            | .inr o17 =>some o17
            | .inl z14 =>some ((false,()),(z14.2.1,z14.2.2.1,())))
         ((aks z2.2.1 (asf z2.1.f (wi (((z2.1.f.length:Nat):Int)-1)))).bind fun r12 =>
          (lpF bkF 18446744073709551616 (r12.1.1,({ z2.1 with f:=z2.1.f.set (wi (((z2.1.f.length:Nat):Int)-1)).toNat r12.2.2.1 }:MaV),r12.2.1,())).bind fun z14 =>match z14 with
            | .inr o17 =>some o17
            | .inl z14 =>some ((false,()),(z14.2.1,z14.2.2.1,())))
      else none:=by kernel_rfl
theorem amS {n:Nat} (h:n≤1000):wi (((n+1:Nat):Int)-1)=(n:Int):=by
 rw [aa2 (aae (by omega))]; omega
theorem apq {a:List FrV} {t:FrV}:asf (a++[t]) (a.length:Int)=t:=by simp [asf,atL]; rfl
theorem app {a:List FrV} {t g:FrV}:(a++[t]).set ((a.length:Int)).toNat g=a++[g]:=by simp
theorem at2 {a:List FrV} {t:FrV}:(a++[t]).take ((a.length:Int)).toNat=a:=by simp
section
variable {K:Nat} {e:EnvV}
theorem aAT (self:MaV×EnvV×Unit→Option (MaV×EnvV×Unit)) (m:MaV) (top:FrV) (a:List FrV) (hp:EntC e top) (ha:a.length≤900) :
  enF self ({ m with f:=a++[top] },e,())=match aiO e top with
   | (none,f') =>some ({ m with f:=a++[f'] },e,())
   | (some ch,f') =>self ({ m with f:=(a++[f'])++[{ ch with line:=1 }] },e,()):=by
 unfold enF
 have h1:(a++[top]).length=a.length+1:=by simp
 have hg:0≤(a.length:Int)∧(a.length:Int)<((a.length+1:Nat):Int):=by omega
 simp only [acL,h1,amS (show a.length≤1000 by omega),hg,and_self,if_true,apq,awH hp,Option.bind_some,aCv,app]
 rcases aiO e top with ⟨o,f'⟩
 cases o with
 | none =>rfl
 | some ch =>
  have hq:(((a++[f']).length+([({ ch with line:=1 }:FrV)]:List FrV).length:Nat):Int)<100000000000:=by simp; omega
  simp only [Option.isSome_some,Bool.not_true,Bool.false_eq_true,if_false,Option.getD_some,hq,if_true]
theorem aqU (he:EnvOk K e) (hK1:1≤K) (hK:K≤900000000) (m:MaV):∀ (k n:Nat) (top:FrV) (ps:List FrV),DeepP K e top ps→TopOk e.c top→anl top.kind<k→k≤n →
  lpF enF n ({ m with f:=ps.reverse++[top] },e,())=some ({ m with f:=(afA e k top ps).2.reverse++[(afA e k top ps).1] },e,())
 | 0,_,_,_,_,_,h,_ =>by omega
 | k+1,0,_,_,_,_,_,h =>by omega
 | k+1,n+1,top,ps,hx,ht,hk,hn =>by
  have hlen:=hx.par.len
  have hpre:EntC e top:=⟨he.cf,he.rcs.1,fun hk =>⟨(ht.run hk).1,by have:=hx.fr.ln; omega⟩,fun hk =>(ht.cl hk).1⟩
  rw [ab1,aAT _ m top ps.reverse hpre (by simp; omega),afA]
  have ho:=aor hx.fr he ht hK1
  rcases hM:aiO e top with ⟨o,f'⟩
  rw [hM] at ho
  have ho1:=ho.fr
  have ho2:=ho.kind
  cases o with
  | none =>rfl
  | some ch =>
   obtain ⟨h1,h2,h3,h4⟩:=ho.yes ch rfl
   have:=aqU he hK1 hK m k n { ch with line:=1 } (f'::ps) ⟨h1,⟨h3.ch rfl,ho1,hx.par.ch ho2⟩,fun p hp =>by
    rcases List.mem_cons.1 hp with rfl | hp
    ·exact h4
    ·exact hx.pc p hp⟩ h2 (by
     have h5:=h3.rk
     rw [ho2] at h5
     show anl ch.kind<k
     omega) (by omega)
   rw [List.reverse_cons] at this
   exact this
def bkO (m:MaV) (z:Option ResV×EnvV×List FrV) (r:ResV):(ResV×MaV×EnvV×Unit)⊕((Bool×Unit)×(MaV×EnvV×Unit)):=match z.1 with
 | some q =>.inr ((true,()),(⟨[],true,q.code,q.value⟩,z.2.1,()))
 | none =>.inl (r,{ m with f:=z.2.2.reverse },z.2.1,())
theorem azg (self:ResV×MaV×EnvV×Unit→Option ((ResV×MaV×EnvV×Unit)⊕((Bool×Unit)×(MaV×EnvV×Unit)))) (m:MaV) (r:ResV) (top:FrV) (hd:r.done=true):bkF self (r,{ m with f:=[top] },e,())=some (.inr ((true,()),(⟨[],true,r.code,r.value⟩,e,()))):=by
 unfold bkF
 have h1:wi (((([top]:List FrV).length:Nat):Int)-1)=0:=rfl
 have hg:(0:Int)≤0∧(0:Int)≤((([top]:List FrV).length:Nat):Int):=⟨by decide,by simp⟩
 have h2:((([top].take (0:Int).toNat).length:Nat):Int)=0:=rfl
 simp only [hd,if_true,h1,hg,and_self,h2]
 rfl
theorem awY (self:ResV×MaV×EnvV×Unit→Option ((ResV×MaV×EnvV×Unit)⊕((Bool×Unit)×(MaV×EnvV×Unit)))) (m:MaV) (r:ResV) (top p:FrV) (a:List FrV) (hd:r.done=true) (ha:a.length≤900) (hp:BackC e p r.code r.value) :
  bkF self (r,{ m with f:=(a++[p])++[top] },e,())=self ((ahK e p r.code r.value).1,{ m with f:=a++[(ahK e p r.code r.value).2.2] },(ahK e p r.code r.value).2.1,()):=by
 unfold bkF
 have h1:((a++[p])++[top]).length=(a++[p]).length+1:=by simp
 have h2:(a++[p]).length=a.length+1:=by simp
 have hg:0≤((a++[p]).length:Int)∧((a++[p]).length:Int)≤(((a++[p]).length+1:Nat):Int):=by omega
 have hg2:0≤(a.length:Int)∧(a.length:Int)<((a.length+1:Nat):Int):=by omega
 have h3:¬ ((((a.length+1:Nat)):Int)=0):=by omega
 simp only [hd,if_true,h1,amS (show (a++[p]).length≤1000 by omega),hg,and_self,at2]
 simp only [h2,amS (show a.length≤1000 by omega),hg2,and_self,h3,if_true,if_false,apq,app,azi hp,Option.bind_some,aek]
theorem aq1 {e0:EnvV} (m:MaV):∀ (ps:List FrV) (n L:Nat) (r:ResV) (e:EnvV) (top:FrV),e.c=e0.c→ps.length<n→L+ps.length≤900000000→EnvOk L e→DeepP L e top ps→Rg r.value →
  (top.kind=12→r.code=3∨(0≤r.value∧r.value<(e.recs.length:Int)))→∃ r',lpF bkF n (r,{ m with f:=ps.reverse++[top] },e,())=some (bkO m (alk r e top ps) r')
 | _,0,_,_,_,_,_,h,_,_,_,_,_ =>by omega
 | [],n+1,L,r,e,top,c1,hn,hL,he,hx,hv,h12 =>by
  refine ⟨r,?_⟩
  rw [ab1,alk]
  by_cases hd:r.done=true
  ·rw [if_pos hd]
   exact azg _ m r top hd
  ·rw [if_neg hd]
   unfold bkF
   rw [if_neg hd]
   rfl
 | p::ps,n+1,L,r,e,top,c1,hn,hL,he,hx,hv,h12 =>by
  rw [ab1,alk]
  by_cases hd:r.done=true
  ·rw [if_pos hd]
   have hlen:=hx.par.len
   have hpre:=hx.par.1.pre hx.par.2.1 he (hx.pc p (List.mem_cons_self ..)) (by omega) (code:=r.code) (value:=r.value) h12
   rw [List.reverse_cons,awY _ m r top p ps.reverse hd (by simp at hlen ⊢; omega) hpre]
   have ho:=aq3 (code:=r.code) hx.par.2.1 he trivial hv hx.par.1 (hx.pc p (List.mem_cons_self ..)) h12
   have hpk:p.kind≠12:=fun e =>by
    have:=hx.par.1.rk
    rw [e] at this
    simp [anl] at this
   have hrest:=hx.par.2.2.rest hpk
   have hc:=ho.lf.env.c
   exact aq1 (e0:=e0) m ps n (L+1) (ahK e p r.code r.value).1 (ahK e p r.code r.value).2.1 (ahK e p r.code r.value).2.2 (hc.trans c1) (by simp at hn; omega) (by simp at hL; omega) (ho.lf.env.ok he)
    ⟨ho.lf.fr,by rw [hc]; exact (hx.par.2.2.le (Nat.le_succ _)).ch ho.lf.kind,fun q hq =>(hrest q hq).pc⟩ ho.lf.val (fun e =>absurd (ho.lf.kind.symm.trans e) hpk)
  ·rw [if_neg hd]
   refine ⟨r,?_⟩
   unfold bkF
   rw [if_neg hd]
   simp only [bkO,List.reverse_cons]
def azn (K:Nat) (c:Cfg) (x:MaV):Prop:=x.over=true∨∃ top ps,x.f=ps.reverse++[top]∧StOk K c top ps
theorem azn.le {L:Nat} {c:Cfg} {x:MaV} (h:azn K c x) (hl:K≤L):azn L c x:=h.imp id fun ⟨t,q,h1,h2⟩ =>⟨t,q,h1,h2.le hl⟩
structure StepP (K:Nat) (e:EnvV) (o:Bool×MaV×EnvV):Prop where
 env:EnvOk K o.2.2
 c:o.2.2.c=e.c
 now:o.2.2.now=e.now
 draw:o.2.2.draw=e.draw
 len:o.2.2.m.cells.length=e.m.cells.length
 ma:azn K e.c o.2.1
theorem asB {x:MaV} (hx:azn K e.c x) (he:EnvOk K e) (hK1:1≤K) (hK:K≤800000000):ac2 x e=some (((ai4 e x).1,()),((ai4 e x).2.1,(ai4 e x).2.2,()))∧StepP (K+5) e (ai4 e x):=by
 rw [avt]
 unfold ai4
 by_cases hov:x.over=true
 ·rw [if_pos hov,if_pos hov]
  exact ⟨rfl,he.le (Nat.le_add_right _ _),rfl,rfl,rfl,rfl,.inl hov⟩
 rw [if_neg hov,if_neg hov]
 obtain ⟨top,ps,hf,hs⟩:=hx.resolve_left hov
 have hrv:x.f.reverse=top::ps:=by rw [hf]; simp
 rw [hrv]
 dsimp only
 have hb:=asC hs he hK1
 have hD:DeepP K e top ps:=⟨hs.fr,hs.par,fun p hp =>(hs.rest p hp).pc⟩
 have hrk:anl top.kind<8:=by have:=aoW top.kind; omega
 have h1:=aqU he hK1 (by omega) x 8 18446744073709551616 top ps hD hs.top hrk (by omega)
 have hx0:({ x with f:=ps.reverse++[top] }:MaV)=x:=by rw [← hf]
 rw [hx0] at h1
 obtain ⟨hd,hl⟩:=aju he hK1 8 top ps hD hs.top hrk
 have ho:=aqG hd.fr he hl
 have hleaf:=ayB (hl.pre hd.fr he (by omega))
 have hlen:=hd.par.len
 have hc:=ho.lf.env.c
 unfold avv at hb ⊢
 generalize afA e 8 top ps=z at h1 hd hl ho hleaf hlen hc hb
 have hpc:∀ p∈z.2,PcP (afi e z.1).2.1 p:=fun p hp =>by
  by_cases h12:z.1.kind=12
  ·have h1:=(ho.new h12).2.1
   intro a b
   have:=hd.pc p hp a b
   unfold ann EnvV.prog EnvV.rc at this ⊢
   rw [h1,hc]; exact this
  ·exact (hd.par.rest h12 p hp).pc
 have hlen2:((afi e z.1).2.1.recs.length:Int)=(e.recs.length:Int):=by
  have h1:=(ho.lf.env.ok he).rcs.1
  have h2:=he.rcs.1
  rw [hc] at h1
  omega
 obtain ⟨r',h2⟩:=aq1 (e0:=e) x z.2 18446744073709551616 (K+1) (afi e z.1).1 (afi e z.1).2.1 (afi e z.1).2.2 hc (by omega) (by omega) (ho.lf.env.ok he)
  ⟨ho.lf.fr,by rw [hc]; exact (hd.par.le (Nat.le_succ _)).ch ho.lf.kind,hpc⟩ ho.lf.val
  (fun e2 =>by
   have:=(ho.new (ho.lf.kind.symm.trans e2)).2.2
   omega)
 have e1:(z.2.reverse++[z.1]).length=z.2.reverse.length+1:=by simp
 have e2:z.2.reverse.length≤1000:=by simp; omega
 have hg:0≤(z.2.reverse.length:Int)∧(z.2.reverse.length:Int)<((z.2.reverse.length+1:Nat):Int):=by omega
 refine ⟨?_,?_⟩
 ·rw [h1]
  simp only [Option.bind_some,acL,e1,amS e2,hg,and_self,if_true,apq,app,hleaf,aek]
  rw [h2]
  generalize alk (afi e z.1).1 (afi e z.1).2.1 (afi e z.1).2.2 z.2=w
  rcases w with ⟨o,e',s⟩
  cases o<;>simp only [Option.bind_some,bkO]
 ·generalize alk (afi e z.1).1 (afi e z.1).2.1 (afi e z.1).2.2 z.2=w at hb
  rcases w with ⟨o,e',s⟩
  cases o with
  | some q =>exact ⟨hb.env,hb.c,hb.now,hb.draw,hb.len,.inl rfl⟩
  | none =>
   obtain ⟨t,q,h3,h4⟩:=hb.st rfl
   refine ⟨hb.env,hb.c,hb.now,hb.draw,hb.len,.inr ⟨t,q,?_,h4⟩⟩
   show s.reverse=_
   rw [show s=t::q from h3,List.reverse_cons]
end
end
section
open Go Go.RowKit
set_option maxRecDepth 100000
variable [Tb]
noncomputable def arO (x:EngV) (v:EntV):Option ((Unit)×(EngV×Unit)) :=
 if v.kind=0 then
  (aiC v.value ((x.m.length:Nat):Int)).bind fun r1 =>
  if 0≤r1.1.1∧r1.1.1<((x.m.length:Nat):Int) then
   (ac2 (ak7 x.m r1.1.1) x.e).bind fun r2 =>
   if x.e.m.count<r2.2.2.1.m.count then
   (lpF (σ:=EngV×Unit) (β:=EngV×Unit) (fun self5 x3 =>
   if ((x3.1.stamps.length:Nat):Int)<((x3.1.e.evs.length:Nat):Int) then
   if (((x3.1.stamps.length+([x3.1.n]:List Int).length:Nat)):Int)<1000000000000 then
   self5 (({ x3.1 with stamps:=x3.1.stamps++([x3.1.n]) }:EngV),())
   else none
   else
   some (x3.1,())
   ) 18446744073709551616 (({ x with e:=r2.2.2.1,m:=x.m.set r1.1.1.toNat r2.2.1,last:=r2.2.2.1.m.last }:EngV),())).bind fun z4 =>
   some ((()),(({ z4.1 with n:=wi (z4.1.n+1) }:EngV),()))
   else
   (lpF (σ:=EngV×Unit) (β:=EngV×Unit) (fun self8 x6 =>
   if ((x6.1.stamps.length:Nat):Int)<((x6.1.e.evs.length:Nat):Int) then
   if (((x6.1.stamps.length+([x6.1.n]:List Int).length:Nat)):Int)<1000000000000 then
   self8 (({ x6.1 with stamps:=x6.1.stamps++([x6.1.n]) }:EngV),())
   else none
   else
   some (x6.1,())
   ) 18446744073709551616 (({ x with e:=r2.2.2.1,m:=x.m.set r1.1.1.toNat r2.2.1,last:=⟨0,0,0,0⟩ }:EngV),())).bind fun z7 =>
   some ((()),(({ z7.1 with n:=wi (z7.1.n+1) }:EngV),()))
  else none
 else
 if v.kind=1 then
  if x.e.m.count<x.e.m.count then
   (lpF (σ:=EngV×Unit) (β:=EngV×Unit) (fun self11 x9 =>
   if ((x9.1.stamps.length:Nat):Int)<((x9.1.e.evs.length:Nat):Int) then
   if (((x9.1.stamps.length+([x9.1.n]:List Int).length:Nat)):Int)<1000000000000 then
   self11 (({ x9.1 with stamps:=x9.1.stamps++([x9.1.n]) }:EngV),())
   else none
   else
   some (x9.1,())
   ) 18446744073709551616 (({ x with e:=({ x.e with now:=wi (x.e.now+1) }:EnvV),last:=x.e.m.last }:EngV),())).bind fun z10 =>
   some ((()),(({ z10.1 with n:=wi (z10.1.n+1) }:EngV),()))
  else
  (lpF (σ:=EngV×Unit) (β:=EngV×Unit) (fun self14 x12 =>
   if ((x12.1.stamps.length:Nat):Int)<((x12.1.e.evs.length:Nat):Int) then
   if (((x12.1.stamps.length+([x12.1.n]:List Int).length:Nat)):Int)<1000000000000 then
   self14 (({ x12.1 with stamps:=x12.1.stamps++([x12.1.n]) }:EngV),())
   else none
   else
   some (x12.1,())
  ) 18446744073709551616 (({ x with e:=({ x.e with now:=wi (x.e.now+1) }:EnvV),last:=⟨0,0,0,0⟩ }:EngV),())).bind fun z13 =>
  some ((()),(({ z13.1 with n:=wi (z13.1.n+1) }:EngV),()))
 else
 if v.kind=2 then
  if x.e.m.count<x.e.m.count then
   (lpF (σ:=EngV×Unit) (β:=EngV×Unit) (fun self17 x15 =>
   if ((x15.1.stamps.length:Nat):Int)<((x15.1.e.evs.length:Nat):Int) then
   if (((x15.1.stamps.length+([x15.1.n]:List Int).length:Nat)):Int)<1000000000000 then
   self17 (({ x15.1 with stamps:=x15.1.stamps++([x15.1.n]) }:EngV),())
   else none
   else
   some (x15.1,())
   ) 18446744073709551616 (({ x with e:=({ x.e with draw:=v.value }:EnvV),last:=x.e.m.last }:EngV),())).bind fun z16 =>
   some ((()),(({ z16.1 with n:=wi (z16.1.n+1) }:EngV),()))
  else
  (lpF (σ:=EngV×Unit) (β:=EngV×Unit) (fun self20 x18 =>
   if ((x18.1.stamps.length:Nat):Int)<((x18.1.e.evs.length:Nat):Int) then
   if (((x18.1.stamps.length+([x18.1.n]:List Int).length:Nat)):Int)<1000000000000 then
   self20 (({ x18.1 with stamps:=x18.1.stamps++([x18.1.n]) }:EngV),())
   else none
   else
   some (x18.1,())
  ) 18446744073709551616 (({ x with e:=({ x.e with draw:=v.value }:EnvV),last:=⟨0,0,0,0⟩ }:EngV),())).bind fun z19 =>
  some ((()),(({ z19.1 with n:=wi (z19.1.n+1) }:EngV),()))
 else
 if x.e.m.count<x.e.m.count then
  (lpF (σ:=EngV×Unit) (β:=EngV×Unit) (fun self23 x21 =>
   if ((x21.1.stamps.length:Nat):Int)<((x21.1.e.evs.length:Nat):Int) then
   if (((x21.1.stamps.length+([x21.1.n]:List Int).length:Nat)):Int)<1000000000000 then
   self23 (({ x21.1 with stamps:=x21.1.stamps++([x21.1.n]) }:EngV),())
   else none
   else
   some (x21.1,())
  ) 18446744073709551616 (({ x with last:=x.e.m.last }:EngV),())).bind fun z22 =>
  some ((()),(({ z22.1 with n:=wi (z22.1.n+1) }:EngV),()))
 else
 (lpF (σ:=EngV×Unit) (β:=EngV×Unit) (fun self26 x24 =>
  if ((x24.1.stamps.length:Nat):Int)<((x24.1.e.evs.length:Nat):Int) then
   if (((x24.1.stamps.length+([x24.1.n]:List Int).length:Nat)):Int)<1000000000000 then
   self26 (({ x24.1 with stamps:=x24.1.stamps++([x24.1.n]) }:EngV),())
   else none
  else
  some (x24.1,())
 ) 18446744073709551616 (({ x with last:=⟨0,0,0,0⟩ }:EngV),())).bind fun z25 =>
 some ((()),(({ z25.1 with n:=wi (z25.1.n+1) }:EngV),()))
noncomputable abbrev atk:Con SR1:=⟨31,[.ref 16,.val 5],[],fun x =>arO x.1 x.2.1⟩
theorem avV:CO Tryz.prog atk:=aaC aaB Tryz.func31 [ahn,agv] ⟨agV,ai8,trivial⟩ [] trivial (fun _ =>[]) [(12,.loop [.ob 0 16] 18446744073709551616 1)] fun x =>by kernel_rfl
noncomputable def akB (x:EngV) (l:List EntV):Option ((Unit)×(EngV×Unit)) :=
 (lpF (σ:=Int×EngV×Unit) (β:=Int×EngV×Unit) (fun self3 x1 =>
  if x1.1<((l.length:Nat):Int) then
   if 0≤x1.1∧x1.1<((l.length:Nat):Int) then
   (arO x1.2.1 (aBl l x1.1)).bind fun r4 =>
   self3 (wi (x1.1+1),r4.2.1,())
   else none
  else
  some (x1.1,x1.2.1,())
 ) 18446744073709551616 (0,x,())).bind fun z2 =>
 some ((()),(z2.2.1,()))
noncomputable abbrev aqq:Con SR1:=⟨17,[.ref 16,.sh (.ro 5)],[],fun x =>akB x.1 x.2.1⟩
theorem ati:CO Tryz.prog aqq:=aaC aaB Tryz.func17 [atk] ⟨avV,trivial⟩ [] trivial (fun _ =>[]) [(1,.loop [.rg 4 sI_,.ob 0 16] 18446744073709551616 0)] fun x =>by kernel_rfl
noncomputable def aqs (c:Cfg):Option ((EngV×Unit)×(Unit)) :=
 (arC c).bind fun r1 =>
 (lpF (σ:=Int×EngV×Unit) (β:=Int×EngV×Unit) (fun self4 x2 =>
  if x2.1<c.workers then
   if c.tasks≠0 then
   (ait (⟨25,0,⟨0,0,0,0⟩,x2.1,0,0,0,(Int.tmod x2.1 c.tasks),0,0,0,0,0,0,[]⟩:FrV)).bind fun r5 =>
   if (((x2.2.1.m.length+([r5.1.1]:List MaV).length:Nat)):Int)<100000000000 then
   self4 (wi (x2.1+1),({ x2.2.1 with m:=x2.2.1.m++([r5.1.1]) }:EngV),())
   else none
   else none
  else
  some (x2.1,x2.2.1,())
 ) 18446744073709551616 (0,(⟨r1.1.1,[],0,[],⟨0,0,0,0⟩⟩:EngV),())).bind fun z3 =>
 (ait (⟨26,0,⟨0,0,0,0⟩,0,0,0,0,0,0,0,0,0,0,0,[]⟩:FrV)).bind fun r6 =>
 if (((z3.2.1.m.length+([r6.1.1]:List MaV).length:Nat)):Int)<100000000000 then
  some ((({ z3.2.1 with m:=z3.2.1.m++([r6.1.1]) }:EngV),()),())
 else none
noncomputable abbrev aqr:Con SR1:=⟨16,[.val 13],[.sh (.own 16)],fun x =>aqs x.1⟩
theorem atj:CO Tryz.prog aqr:=aaC aaB Tryz.func16 [ata,aqn] ⟨avR,atb,trivial⟩ [] trivial (fun _ =>[]) [(3,.loop [.rg 4 sI_,.rg 3 (.own 16)] 18446744073709551616 0)] fun x =>by kernel_rfl
end
section
open Go
def aex (x:EngV) (v:EntV):EngV :=
 if v.kind=0 then { x with e:=(ai4 x.e (ak7 x.m (acy v.value x.m.length))).2.2,m:=x.m.set (acy v.value x.m.length).toNat (ai4 x.e (ak7 x.m (acy v.value x.m.length))).2.1 }
 else if v.kind=1 then { x with e:={ x.e with now:=wi (x.e.now+1) } }
 else if v.kind=2 then { x with e:={ x.e with draw:=v.value } }
 else x
def doM (x:EngV) (v:EntV):EngV :=
 { aex x v with last:=if x.e.m.count<(aex x v).e.m.count then (aex x v).e.m.last else ⟨0,0,0,0⟩,stamps:=x.stamps++List.replicate ((aex x v).e.evs.length-x.stamps.length) x.n,n:=wi (x.n+1) }
def ax1 (x:EngV):List EntV→EngV
 | [] =>x
 | v::l =>ax1 (doM x v) l
def ajk (n:Int):Int:=if 0<(if 131072<n then 131072 else n) then (if 131072<n then 131072 else n) else 0
def axk (c:Cfg):EnvV:=⟨c,⟨List.replicate (ajk (auR c)).toNat 0,⟨0,0,0,0⟩,0⟩,0,0,List.replicate c.tasks.toNat (ajQ 0 (-1)),[]⟩
def afB (c:Cfg) (w:Nat):FrV:={ frK 25 with line:=1,a:=w,j:=Int.tmod w c.tasks }
def azt (c:Cfg):EngV:=⟨axk c,(List.range c.workers.toNat).map (fun w =>⟨[afB c w],false,0,0⟩)++[⟨[{ frK 26 with line:=1 }],false,0,0⟩],0,[],⟨0,0,0,0⟩⟩
structure EngP (K:Nat) (x:EngV):Prop where
 env:EnvOk K x.e
 ma:∀ y∈x.m,azn K x.e.c y
 n1:1≤x.m.length
 n2:x.m.length≤100
 st:x.e.evs.length≤x.stamps.length
 sl:x.stamps.length≤K
 mono:x.stamps.Pairwise (·≤·)
 bd:∀ s∈x.stamps,0≤s∧s≤x.n
 n:0≤x.n∧x.n≤K
section
variable {K:Nat} {x:EngV}
noncomputable def stF (self:EngV×Unit→Option (EngV×Unit)) (x:EngV×Unit):Option (EngV×Unit) :=
 if ((x.1.stamps.length:Nat):Int)<((x.1.e.evs.length:Nat):Int) then
  if (((x.1.stamps.length+([x.1.n]:List Int).length:Nat)):Int)<1000000000000 then self (({ x.1 with stamps:=x.1.stamps++([x.1.n]) }:EngV),()) else none
 else some (x.1,())
noncomputable def tlF (y:EngV):Option ((Unit)×(EngV×Unit)):=(lpF stF 18446744073709551616 (y,())).bind fun z =>some ((()),(({ z.1 with n:=wi (z.1.n+1) }:EngV),()))
theorem aAU (x:EngV) (v:EntV):arO x v =
 if v.kind=0 then
  (aiC v.value ((x.m.length:Nat):Int)).bind fun r1 =>
  if 0≤r1.1.1∧r1.1.1<((x.m.length:Nat):Int) then
   (ac2 (ak7 x.m r1.1.1) x.e).bind fun r2 =>
   if x.e.m.count<r2.2.2.1.m.count then tlF ({ x with e:=r2.2.2.1,m:=x.m.set r1.1.1.toNat r2.2.1,last:=r2.2.2.1.m.last }:EngV)
   else tlF ({ x with e:=r2.2.2.1,m:=x.m.set r1.1.1.toNat r2.2.1,last:=⟨0,0,0,0⟩ }:EngV)
  else none
 else if v.kind=1 then
  if x.e.m.count<x.e.m.count then tlF ({ x with e:=({ x.e with now:=wi (x.e.now+1) }:EnvV),last:=x.e.m.last }:EngV)
  else tlF ({ x with e:=({ x.e with now:=wi (x.e.now+1) }:EnvV),last:=⟨0,0,0,0⟩ }:EngV)
 else if v.kind=2 then
  if x.e.m.count<x.e.m.count then tlF ({ x with e:=({ x.e with draw:=v.value }:EnvV),last:=x.e.m.last }:EngV)
  else tlF ({ x with e:=({ x.e with draw:=v.value }:EnvV),last:=⟨0,0,0,0⟩ }:EngV)
 else
  if x.e.m.count<x.e.m.count then tlF ({ x with last:=x.e.m.last }:EngV) else tlF ({ x with last:=⟨0,0,0,0⟩ }:EngV):=by kernel_rfl
theorem axP (G:EngV×Unit→Option (EngV×Unit)) (y:EngV) (h1:y.stamps.length<y.e.evs.length) (h2:y.stamps.length≤999999999):stF G (y,())=G (({ y with stamps:=y.stamps++[y.n] }:EngV),()):=by
 unfold stF
 have a1:((y.stamps.length:Nat):Int)<((y.e.evs.length:Nat):Int):=by omega
 have a2:(((y.stamps.length+([y.n]:List Int).length:Nat)):Int)<1000000000000:=by rw [List.length_singleton]; omega
 simp only [a1,a2,if_true]
theorem azI (G:EngV×Unit→Option (EngV×Unit)) (y:EngV) (h1:y.e.evs.length≤y.stamps.length):stF G (y,())=some (y,()):=by
 unfold stF
 have a1:¬ ((y.stamps.length:Nat):Int)<((y.e.evs.length:Nat):Int):=by omega
 simp only [a1,if_false]
theorem ari:∀ (j k:Nat) (y:EngV),y.e.evs.length-y.stamps.length=j→j<k→y.e.evs.length≤999999999→lpF stF k (y,())=some (({ y with stamps:=y.stamps++List.replicate j y.n }:EngV),()):=by
 intro j
 induction j with
 | zero =>
  intro k y hj hk hl
  obtain ⟨k,rfl⟩:∃ k',k=k'+1:=⟨k-1,by omega⟩
  rw [ab1,azI _ y (by omega)]
  simp
 | succ j ih =>
  intro k y hj hk hl
  obtain ⟨k,rfl⟩:∃ k',k=k'+1:=⟨k-1,by omega⟩
  rw [ab1,axP _ y (by omega) (by omega)]
  have e1:y.e.evs.length-(y.stamps++[y.n]).length=j:=by rw [List.length_append,List.length_singleton]; omega
  rw [ih k ({ y with stamps:=y.stamps++[y.n] }:EngV) e1 (by omega) hl]
  simp [List.replicate_succ]
theorem EngP.le {L:Nat} (h:EngP K x) (hl:K≤L):EngP L x:=⟨h.env.le hl,fun y hy =>(h.ma y hy).le hl,h.n1,h.n2,h.st,Nat.le_trans h.sl hl,h.mono,h.bd,h.n.1,by have:=h.n.2; omega⟩
theorem EnvOk.nd {e e':EnvV} (h:EnvOk K e) (h1:e'.c=e.c) (h2:e'.recs=e.recs) (h3:e'.evs=e.evs) (h4:Rg e'.now) (h5:Rg e'.draw):EnvOk K e':=⟨h1▸h.cf,by rw [h1,h2]; exact h.rcs,by rw [h3]; exact h.evs,h4,h5⟩
theorem atz (h:EngP K x) (v:EntV):0≤acy v.value x.m.length∧acy v.value x.m.length<(x.m.length:Int):=am8 (by have:=h.n1; omega) (by have:=h.n2; omega)
theorem aqy (h:EngP K x) {v:EntV} (hv:Rg v.value) (hK1:1≤K) (hK:K≤700000000):EnvOk (K+5) (aex x v).e∧(∀ y∈(aex x v).m,azn (K+5) x.e.c y)∧(aex x v).m.length=x.m.length∧(aex x v).e.c=x.e.c∧(aex x v).stamps=x.stamps∧(aex x v).n=x.n∧(aex x v).e.m.cells.length=x.e.m.cells.length:=by
 have h5:=h.le (Nat.le_add_right K 5)
 unfold aex
 split
 ·obtain ⟨_,hs⟩:=asB (h.ma _ (alm (d:=dfR 15) (atz h v))) h.env hK1 (by omega)
  refine ⟨hs.env,fun y hy =>?_,by simp,hs.c,rfl,rfl,hs.len⟩
  rcases atO hy with rfl | hy
  ·exact hs.ma
  ·exact h5.ma y hy
 split
 ·exact ⟨h5.env.nd rfl rfl rfl (aaG _) h.env.draw,h5.ma,rfl,rfl,rfl,rfl,rfl⟩
 split
 ·exact ⟨h5.env.nd rfl rfl rfl h.env.now hv,h5.ma,rfl,rfl,rfl,rfl,rfl⟩
 ·exact ⟨h5.env,h5.ma,rfl,rfl,rfl,rfl,rfl⟩
theorem axu (h:EngP K x) {v:EntV} (hv:Rg v.value) (hK1:1≤K) (hK:K≤700000000):EngP (K+5) (doM x v)∧(doM x v).e.c=x.e.c∧(doM x v).m.length=x.m.length∧(doM x v).e.m.cells.length=x.e.m.cells.length:=by
 obtain ⟨h1,h2,h3,h4,h5,h6,h7⟩:=aqy h hv hK1 hK
 have hn:wi (x.n+1)=x.n+1:=aa2 (aae (by have:=h.n; omega))
 have hev:=h1.evs.1
 have hsl:=h.sl
 refine ⟨⟨h1,fun y hy =>by rw [show (doM x v).e.c=x.e.c from h4]; exact h2 y hy,h3▸h.n1,h3▸h.n2,?_,?_,?_,?_,?_⟩,h4,h3,h7⟩
 ·show (aex x v).e.evs.length≤(x.stamps++List.replicate _ x.n).length
  simp; omega
 ·show (x.stamps++List.replicate _ x.n).length≤K+5
  simp; omega
 ·show (x.stamps++List.replicate _ x.n).Pairwise (·≤·)
  refine List.pairwise_append.2 ⟨h.mono,List.pairwise_replicate.2 (.inr (Int.le_refl _)),fun a ha b hb =>?_⟩
  rw [(List.mem_replicate.1 hb).2]; exact (h.bd a ha).2
 ·show ∀ s∈x.stamps++List.replicate _ x.n,0≤s∧s≤wi (x.n+1)
  intro s hs
  rw [hn]
  rcases List.mem_append.1 hs with hs | hs
  ·have:=h.bd s hs; omega
  ·rw [(List.mem_replicate.1 hs).2]; have:=h.n; omega
 ·show 0≤wi (x.n+1)∧wi (x.n+1)≤((K+5:Nat):Int)
  rw [hn]; have:=h.n; omega
theorem ay6 (h:EngP K x) (y:EngV) (hy:y.e.evs.length≤K+5) (h1:y.n=x.n) (h2:y.stamps=x.stamps) (hK:K≤700000000) :
  tlF y=some ((()),(({ y with stamps:=x.stamps++List.replicate (y.e.evs.length-x.stamps.length) x.n,n:=wi (x.n+1) }:EngV),())):=by
 unfold tlF
 rw [ari (y.e.evs.length-y.stamps.length) 18446744073709551616 y rfl (by omega) (by omega)]
 simp only [Option.bind_some,h1,h2]
theorem aCe (h:EngP K x) {v:EntV} (hv:Rg v.value) (hK1:1≤K) (hK:K≤700000000):arO x v=some ((()),(doM x v,())):=by
 obtain ⟨q1,q2,q3,q4,q5,q6,_⟩:=aqy h hv hK1 hK
 have hev:=q1.evs.1
 have tl:∀ a:AccV,tlF { aex x v with last:=a }=some ((()),(({ aex x v with last:=a,stamps:=x.stamps++List.replicate ((aex x v).e.evs.length-x.stamps.length) x.n,n:=wi (x.n+1) }:EngV),())):=fun a =>ay6 h { aex x v with last:=a } hev q6 q5 hK
 have hlt:¬ x.e.m.count<x.e.m.count:=by omega
 rw [aAU]
 unfold doM
 by_cases k0:v.kind=0
 ·have hi:=atz h v
  obtain ⟨hs,_⟩:=asB (h.ma _ (alm (d:=dfR 15) hi)) h.env hK1 (by omega)
  have hp:aex x v={ x with e:=(ai4 x.e (ak7 x.m (acy v.value x.m.length))).2.2,m:=x.m.set (acy v.value x.m.length).toNat (ai4 x.e (ak7 x.m (acy v.value x.m.length))).2.1 }:=by unfold aex; rw [if_pos k0]
  have hs':ac2 (ak7 x.m (acy v.value ((x.m.length:Nat):Int))) x.e=some (((ai4 x.e (ak7 x.m (acy v.value x.m.length))).1,()),((ai4 x.e (ak7 x.m (acy v.value x.m.length))).2.1,(ai4 x.e (ak7 x.m (acy v.value x.m.length))).2.2,())):=hs
  rw [if_pos k0]
  simp only [abn,Option.bind_some,hs']
  rw [if_pos hi]
  rw [hp] at tl ⊢
  generalize ai4 x.e (ak7 x.m (acy v.value x.m.length))=w at tl ⊢
  by_cases hc:x.e.m.count<w.2.2.m.count
  ·rw [if_pos hc,if_pos hc]; exact tl _
  ·rw [if_neg hc,if_neg hc]; exact tl _
 rw [if_neg k0]
 by_cases k1:v.kind=1
 ·have hp:aex x v={ x with e:={ x.e with now:=wi (x.e.now+1) } }:=by unfold aex; rw [if_neg k0,if_pos k1]
  rw [if_pos k1,if_neg hlt]
  rw [hp] at tl ⊢
  rw [if_neg hlt]; exact tl _
 rw [if_neg k1]
 by_cases k2:v.kind=2
 ·have hp:aex x v={ x with e:={ x.e with draw:=v.value } }:=by unfold aex; rw [if_neg k0,if_neg k1,if_pos k2]
  rw [if_pos k2,if_neg hlt]
  rw [hp] at tl ⊢
  rw [if_neg hlt]; exact tl _
 rw [if_neg k2]
 have hp:aex x v=x:=by unfold aex; rw [if_neg k0,if_neg k1,if_neg k2]
 rw [if_neg hlt]
 rw [hp] at tl ⊢
 rw [if_neg hlt]; exact tl _
theorem avH:∀ (l:List EntV) (K:Nat) (x:EngV),EngP K x→(∀ v∈l,Rg v.value)→1≤K→K+5*l.length≤700000000→EngP (K+5*l.length) (ax1 x l)∧(ax1 x l).e.c=x.e.c∧(ax1 x l).m.length=x.m.length∧(ax1 x l).e.m.cells.length=x.e.m.cells.length:=by
 intro l
 induction l with
 | nil =>exact fun K x h _ _ _ =>⟨h,rfl,rfl,rfl⟩
 | cons v l ih =>
  intro K x h hv hK1 hK
  rw [List.length_cons] at hK
  obtain ⟨h1,h2,h3,h4⟩:=axu h (hv v (List.mem_cons_self ..)) hK1 (by omega)
  obtain ⟨g1,g2,g3,g4⟩:=ih (K+5) (doM x v) h1 (fun u hu =>hv u (List.mem_cons_of_mem _ hu)) (by omega) (by omega)
  rw [List.length_cons,show K+5*(l.length+1)=K+5+5*l.length by omega]
  exact ⟨g1,g2.trans h2,g3.trans h3,g4.trans h4⟩
noncomputable def rnF (l0:List EntV) (self:Int×EngV×Unit→Option (Int×EngV×Unit)) (x:Int×EngV×Unit):Option (Int×EngV×Unit) :=
 if x.1<((l0.length:Nat):Int) then (if 0≤x.1∧x.1<((l0.length:Nat):Int) then (arO x.2.1 (aBl l0 x.1)).bind fun r =>self (wi (x.1+1),r.2.1,()) else none) else some (x.1,x.2.1,())
theorem axY (x:EngV) (l:List EntV):akB x l=(lpF (rnF l) 18446744073709551616 (0,x,())).bind fun z2 =>some ((()),(z2.2.1,())):=by kernel_rfl
theorem ax9 (l0:List EntV) (G:Int×EngV×Unit→Option (Int×EngV×Unit)) (i:Nat) (x:EngV) (v:EntV) (y:EngV) (h:l0[i]?=some v) (hl:l0.length≤1000000000) (hd:arO x v=some ((()),(y,()))):rnF l0 G ((i:Int),x,())=G (((i+1:Nat):Int),y,()):=by
 have hlt:=(List.getElem?_eq_some_iff.1 h).1
 have a1:(i:Int)<((l0.length:Nat):Int):=by omega
 have a2:0≤(i:Int)∧(i:Int)<((l0.length:Nat):Int):=by omega
 have hv0:aBl l0 (i:Int)=v:=by simp [aBl,atL,h]; rfl
 have e1:wi ((i:Int)+1)=((i+1:Nat):Int):=by rw [aa2 (aae (by omega))]; omega
 unfold rnF
 simp only [a1,a2,if_true,and_self,hv0,hd,Option.bind_some,e1]
theorem azV (l0:List EntV) (G:Int×EngV×Unit→Option (Int×EngV×Unit)) (i:Nat) (x:EngV) (h:l0.length≤i):rnF l0 G ((i:Int),x,())=some ((i:Int),x,()):=by
 have a1:¬ (i:Int)<((l0.length:Nat):Int):=by omega
 unfold rnF
 simp only [a1,if_false]
theorem avG {l0:List EntV} (hl0:l0.length≤1000000000) :
  ∀ (l:List EntV) (K n i:Nat) (x:EngV),EngP K x→(∀ v∈l,Rg v.value)→1≤K→K+5*l.length≤700000000→l0.drop i=l→i≤l0.length→l.length<n→lpF (rnF l0) n ((i:Int),x,())=some ((l0.length:Int),ax1 x l,()):=by
 intro l
 induction l with
 | nil =>
  intro K n i x _ _ _ _ hd hi hn
  obtain ⟨n,rfl⟩:∃ k',n=k'+1:=⟨n-1,by simp at hn; omega⟩
  have h1:l0.length≤i:=List.drop_eq_nil_iff.1 hd
  rw [ab1,azV _ _ _ _ h1,show (i:Int)=(l0.length:Int) by omega]; rfl
 | cons v l ih =>
  intro K n i x h hv hK1 hK hd hi hn
  rw [List.length_cons] at hK hn
  obtain ⟨n,rfl⟩:∃ k',n=k'+1:=⟨n-1,by omega⟩
  have hlt:i<l0.length:=by
   rcases Nat.lt_or_ge i l0.length with h | h
   ·exact h
   ·rw [List.drop_eq_nil_iff.2 h] at hd; cases hd
  have hvi:l0[i]?=some v:=by rw [← List.head?_drop,hd]; rfl
  have hvr:=hv v (List.mem_cons_self ..)
  rw [ab1,ax9 l0 _ i x v _ hvi hl0 (aCe h hvr hK1 (by omega))]
  exact ih (K+5) n (i+1) (doM x v) (axu h hvr hK1 (by omega)).1 (fun u hu =>hv u (List.mem_cons_of_mem _ hu)) (by omega) (by omega)
   (by rw [← List.drop_drop,hd]; rfl) (by omega) (by omega)
theorem run_eq' (h:EngP K x) {l:List EntV} (hv:∀ v∈l,Rg v.value) (hK1:1≤K) (hK:K+5*l.length≤700000000):akB x l=some ((()),(ax1 x l,())):=by
 rw [axY]
 have:=avG (l0:=l) (by omega) l K 18446744073709551616 0 x h hv hK1 hK rfl (Nat.zero_le _) (by omega)
 rw [show ((0:Nat):Int)=0 from rfl] at this
 rw [this]; rfl
end
theorem awf (n:Int):0≤ajk n∧ajk n≤131072:=by
 unfold ajk
 repeat' split
 all_goals omega
theorem avU (n:Int):ath n=some (((⟨List.replicate (ajk n).toNat 0,⟨0,0,0,0⟩,0⟩:MemV),()),()):=by
 have h:=awf n
 have h2:0≤ajk n∧ajk n≤1099511627776:=by omega
 have e:ath n=if ajk n=ajk n then (if 0≤ajk n∧ajk n≤1099511627776 then some (((⟨List.replicate (ajk n).toNat 0,⟨0,0,0,0⟩,0⟩:MemV),()),()) else none) else none:=rfl
 rw [e,if_pos rfl,if_pos h2]
noncomputable def nrF (N:Int) (c:Cfg) (self:Int×EnvV×Unit→Option (Int×EnvV×Unit)) (x:Int×EnvV×Unit):Option (Int×EnvV×Unit) :=
 if x.1<c.tasks then
  (af6 0 (-1)).bind fun r6 =>
  if (((x.2.1.recs.length+([r6.1.1]:List RecV).length:Nat)):Int)<N then self (wi (x.1+1),({ x.2.1 with recs:=x.2.1.recs++([r6.1.1]) }:EnvV),()) else none
 else some (x.1,x.2.1,())
theorem ayr (N:Int) (hN:1000000≤N) (c:Cfg) (G:Int×EnvV×Unit→Option (Int×EnvV×Unit)) (i:Nat) (e:EnvV) (h:(i:Int)<c.tasks) (hc:c.tasks≤65535) (hr:e.recs.length=i):nrF N c G ((i:Int),e,())=G (((i+1:Nat):Int),({ e with recs:=e.recs++[ajQ 0 (-1)] }:EnvV),()):=by
 have e1:wi ((i:Int)+1)=((i+1:Nat):Int):=by rw [aa2 (aae (by omega))]; omega
 have a2:(((e.recs.length+([ajQ 0 (-1)]:List RecV).length:Nat)):Int)<N:=by rw [List.length_singleton]; omega
 have a3:af6 0 (-1)=some (((ajQ 0 (-1)),()),()):=rfl
 unfold nrF
 rw [if_pos h,a3]
 simp only [Option.bind_some]
 rw [if_pos a2,e1]
theorem aAt (N:Int) (c:Cfg) (G:Int×EnvV×Unit→Option (Int×EnvV×Unit)) (i:Nat) (e:EnvV) (h:c.tasks≤(i:Int)):nrF N c G ((i:Int),e,())=some ((i:Int),e,()):=by
 have a1:¬ (i:Int)<c.tasks:=by omega
 unfold nrF
 simp only [a1,if_false]
theorem ayq {N:Int} (hN:1000000≤N) {c:Cfg} (hc:c.tasks≤65535) (e:EnvV):∀ (j k i:Nat),(c.tasks-i).toNat=j→(i:Int)≤c.tasks→j<k→lpF (nrF N c) k ((i:Int),({ e with recs:=List.replicate i (ajQ 0 (-1)) }:EnvV),())=some (c.tasks,({ e with recs:=List.replicate c.tasks.toNat (ajQ 0 (-1)) }:EnvV),()):=by
 intro j
 induction j with
 | zero =>
  intro k i hj hi hk
  obtain ⟨k,rfl⟩:∃ k',k=k'+1:=⟨k-1,by omega⟩
  rw [ab1,aAt _ _ _ _ _ (by omega),show (i:Int)=c.tasks by omega,show c.tasks.toNat=i by omega]
 | succ j ih =>
  intro k i hj hi hk
  obtain ⟨k,rfl⟩:∃ k',k=k'+1:=⟨k-1,by omega⟩
  rw [ab1,ayr _ hN _ _ _ _ (by omega) hc (by simp)]
  have:=ih k (i+1) (by omega) (by omega) (by omega)
  rw [List.replicate_succ'] at this
  exact this
theorem as9 (cf:Cfg):arC cf=(akA cf).bind fun r1 =>if cf.workers=cf.workers then if cf.levels=cf.levels then if cf.classes=cf.classes then if cf.tasks=cf.tasks then if cf.deque=cf.deque then if cf.heap=cf.heap then if cf.batch=cf.batch then if cf.age=cf.age then if cf.patience=cf.patience then
  (ath r1.1.1).bind fun r2 =>if cf.workers=cf.workers then if cf.levels=cf.levels then if cf.classes=cf.classes then if cf.tasks=cf.tasks then if cf.deque=cf.deque then if cf.heap=cf.heap then if cf.batch=cf.batch then if cf.age=cf.age then if cf.patience=cf.patience then
  (lpF (nrF 100000000000 cf) 18446744073709551616 (0,(⟨cf,r2.1.1,0,0,[],[]⟩:EnvV),())).bind fun z4 =>some ((z4.2.1,()),())
  else none else none else none else none else none else none else none else none else none else none else none else none else none else none else none else none else none else none:=by kernel_rfl
theorem avS {c:Cfg} (hc:CfgOk c):arC c=some ((axk c,()),()):=by
 rw [as9]
 simp only [arN,avU,Option.bind_some,if_true]
 have:=ayq (N:=100000000000) (by decide) (c:=c) hc.t2 ⟨c,⟨List.replicate (ajk (auR c)).toNat 0,⟨0,0,0,0⟩,0⟩,0,0,[],[]⟩ c.tasks.toNat 18446744073709551616 0 (by omega) (by have:=hc.t1; omega) (by have:=hc.t2; omega)
 rw [show ((0:Nat):Int)=0 from rfl] at this
 simp only [List.replicate_zero] at this
 rw [this]; rfl
noncomputable def nwF (N:Int) (c:Cfg) (self:Int×EngV×Unit→Option (Int×EngV×Unit)) (x:Int×EngV×Unit):Option (Int×EngV×Unit) :=
 if x.1<c.workers then
  if c.tasks≠0 then
   (ait (⟨25,0,⟨0,0,0,0⟩,x.1,0,0,0,(Int.tmod x.1 c.tasks),0,0,0,0,0,0,[]⟩:FrV)).bind fun r5 =>
   if (((x.2.1.m.length+([r5.1.1]:List MaV).length:Nat)):Int)<N then self (wi (x.1+1),({ x.2.1 with m:=x.2.1.m++([r5.1.1]) }:EngV),()) else none
  else none
 else some (x.1,x.2.1,())
theorem atR (f:FrV) (h:f.kind≠22):ait f=some (((⟨[{ f with line:=1 }],false,0,0⟩:MaV),()),()):=by
 unfold ait; rw [if_neg h]
theorem ayp (N:Int) (hN:1000000≤N) (c:Cfg) (G:Int×EngV×Unit→Option (Int×EngV×Unit)) (i:Nat) (x:EngV) (h:(i:Int)<c.workers) (hc:CfgOk c) (hr:x.m.length=i):nwF N c G ((i:Int),x,())=G (((i+1:Nat):Int),({ x with m:=x.m++[⟨[afB c i],false,0,0⟩] }:EngV),()):=by
 have w2:=hc.w2
 have e1:wi ((i:Int)+1)=((i+1:Nat):Int):=by rw [aa2 (aae (by omega))]; omega
 have a2:(((x.m.length+([⟨[afB c i],false,0,0⟩]:List MaV).length:Nat)):Int)<N:=by rw [List.length_singleton]; omega
 have a3:ait (⟨25,0,⟨0,0,0,0⟩,(i:Int),0,0,0,(Int.tmod (i:Int) c.tasks),0,0,0,0,0,0,[]⟩:FrV)=some (((⟨[afB c i],false,0,0⟩:MaV),()),()):=atR _ (show (25:Int)≠22 by decide)
 have a4:c.tasks≠0:=by have:=hc.t1; omega
 unfold nwF
 rw [if_pos h,if_pos a4,a3]
 simp only [Option.bind_some]
 rw [if_pos a2,e1]
theorem aAs (N:Int) (c:Cfg) (G:Int×EngV×Unit→Option (Int×EngV×Unit)) (i:Nat) (x:EngV) (h:c.workers≤(i:Int)):nwF N c G ((i:Int),x,())=some ((i:Int),x,()):=by
 have a1:¬ (i:Int)<c.workers:=by omega
 unfold nwF
 simp only [a1,if_false]
theorem ayo {N:Int} (hN:1000000≤N) {c:Cfg} (hc:CfgOk c) (x:EngV):∀ (j k i:Nat),(c.workers-i).toNat=j→(i:Int)≤c.workers→j<k→lpF (nwF N c) k ((i:Int),({ x with m:=(List.range i).map (fun w =>⟨[afB c w],false,0,0⟩) }:EngV),())=some (c.workers,({ x with m:=(List.range c.workers.toNat).map (fun w =>⟨[afB c w],false,0,0⟩) }:EngV),()):=by
 have w2:=hc.w2
 intro j
 induction j with
 | zero =>
  intro k i hj hi hk
  obtain ⟨k,rfl⟩:∃ k',k=k'+1:=⟨k-1,by omega⟩
  rw [ab1,aAs _ _ _ _ _ (by omega),show (i:Int)=c.workers by omega,show c.workers.toNat=i by omega]
 | succ j ih =>
  intro k i hj hi hk
  obtain ⟨k,rfl⟩:∃ k',k=k'+1:=⟨k-1,by omega⟩
  rw [ab1,ayp _ hN _ _ _ _ (by omega) hc (by simp)]
  have:=ih k (i+1) (by omega) (by omega) (by omega)
  rw [List.range_succ,List.map_append] at this
  exact this
noncomputable def nwT (N:Int) (x:EngV):Option ((EngV×Unit)×Unit):=(ait (⟨26,0,⟨0,0,0,0⟩,0,0,0,0,0,0,0,0,0,0,0,[]⟩:FrV)).bind fun r6 =>
  if (((x.m.length+([r6.1.1]:List MaV).length:Nat)):Int)<N then some ((({ x with m:=x.m++([r6.1.1]) }:EngV),()),()) else none
theorem aAr (N:Int) (hN:1000000≤N) (x:EngV) (h:x.m.length≤1000):nwT N x=some ((({ x with m:=x.m++[⟨[{ frK 26 with line:=1 }],false,0,0⟩] }:EngV),()),()):=by
 have hm:ait (⟨26,0,⟨0,0,0,0⟩,0,0,0,0,0,0,0,0,0,0,0,[]⟩:FrV)=some (((⟨[{ frK 26 with line:=1 }],false,0,0⟩:MaV),()),()):=atR _ (show (26:Int)≠22 by decide)
 have a2:(((x.m.length+([⟨[{ frK 26 with line:=1 }],false,0,0⟩]:List MaV).length:Nat)):Int)<N:=by rw [List.length_singleton]; omega
 unfold nwT
 rw [hm]
 simp only [Option.bind_some]
 rw [if_pos a2]
theorem ays (c:Cfg):aqs c=(arC c).bind fun r1 =>(lpF (nwF 100000000000 c) 18446744073709551616 (0,(⟨r1.1.1,[],0,[],⟨0,0,0,0⟩⟩:EngV),())).bind fun z3 =>nwT 100000000000 z3.2.1:=by kernel_rfl
theorem aAu {c:Cfg} (hc:CfgOk c):aqs c=some ((azt c,()),()):=by
 have w1:=hc.w1
 have w2:=hc.w2
 have h1:(arC c)=some ((axk c,()),()):=avS hc
 have this:lpF (nwF 100000000000 c) 18446744073709551616 (0,(⟨axk c,[],0,[],⟨0,0,0,0⟩⟩:EngV),())=some (c.workers,(⟨axk c,(List.range c.workers.toNat).map (fun w =>⟨[afB c w],false,0,0⟩),0,[],⟨0,0,0,0⟩⟩:EngV),()) := 
  ayo (N:=100000000000) (by decide) hc ⟨axk c,[],0,[],⟨0,0,0,0⟩⟩ c.workers.toNat 18446744073709551616 0 (by omega) (by omega) (by omega)
 have h2:nwT 100000000000 (⟨axk c,(List.range c.workers.toNat).map (fun w =>⟨[afB c w],false,0,0⟩),0,[],⟨0,0,0,0⟩⟩:EngV)=some ((azt c,()),()):=aAr _ (by decide) _ (by simp; omega)
 refine (ays c).trans ?_
 generalize 100000000000=N at this h2 ⊢
 rw [h1,Option.bind_some]
 dsimp only
 rw [this,Option.bind_some]
 exact h2
theorem ayt {c:Cfg} (hc:CfgOk c):EngP 1 (azt c):=by
 have w1:=hc.w1
 have w2:=hc.w2
 have t1:=hc.t1
 have t2:=hc.t2
 refine ⟨⟨hc,⟨by simp [azt,axk]; omega,fun r hr =>?_⟩,⟨Nat.zero_le _,fun e he =>by cases he⟩,rg0,rg0⟩,fun y hy =>?_,by simp [azt],by simp [azt]; omega,Nat.zero_le _,Nat.zero_le _,List.Pairwise.nil,fun s hs =>(by cases hs),⟨Int.le_refl 0,by show (0:Int)≤1; decide⟩⟩
 ·rw [(List.mem_replicate.1 hr).2]
  exact ⟨Nat.zero_le _,fun x hx =>by cases hx⟩
 ·rcases List.mem_append.1 hy with hy | hy
  ·obtain ⟨w,hw,rfl⟩:=List.mem_map.1 hy
   rw [List.mem_range] at hw
   have hw2:Rg (w:Int):=aae (by omega)
   have hw3:Rg (Int.tmod (w:Int) c.tasks):=amf t1 (by omega)
   refine .inr ⟨afB c w,[],rfl,?_,adr (by show (25:Int)≠24; decide) (by show (25:Int)≠26; decide) (by show (25:Int)≠21; decide),trivial,fun p hp =>by cases hp⟩
   constructor<;>(try dsimp only [afB,frK])<;>first | exact hw2 | exact hw3 | exact rg0 | exact Nat.zero_le _ | (intro x hx; cases hx; done) | decide
  ·rw [List.mem_singleton] at hy
   subst hy
   refine .inr ⟨{ frK 26 with line:=1 },[],rfl,?_,⟨fun e =>(by cases e),fun _ =>⟨Int.le_refl 0,by show (0:Int)≤(c.subs.length:Int); omega⟩,fun e =>by cases e⟩,trivial,fun p hp =>by cases hp⟩
   constructor<;>(try dsimp only [frK])<;>first | exact rg0 | exact Nat.zero_le _ | (intro x hx; cases hx; done) | decide
end
section
open Go Go.RowKit
set_option maxRecDepth 100000
variable [Tb]
noncomputable def aps (m:Int):Option ((EntV×Unit)×(Unit)) :=
 some (((⟨0,m⟩:EntV),()),())
noncomputable abbrev apr:Con SR1:=⟨32,[.sh sI_],[.val 5],fun x =>aps x.1⟩
theorem aqL:CO Tryz.prog apr:=aaC aaB Tryz.func32 [] trivial [] trivial (fun _ =>[]) [] fun x =>by kernel_rfl
noncomputable def aez (l:List Int) (i:Int) (n:Int):Option ((Int×Unit)×(Unit)) :=
 if ((l.length:Nat):Int)=0 then
  some ((0,()),())
 else
 if ((l.length:Nat):Int)≠0 then
  if 0≤(Int.tmod i ((l.length:Nat):Int))∧(Int.tmod i ((l.length:Nat):Int))<((l.length:Nat):Int) then
   if ((l.length:Nat):Int)≠0 then
   if (wi (1+(Int.tmod (wi (Int.tdiv i ((l.length:Nat):Int))) 7)))≠0 then
   (aiC (wi (Int.tdiv (aaf l (Int.tmod i ((l.length:Nat):Int))) (wi (1+(Int.tmod (wi (Int.tdiv i ((l.length:Nat):Int))) 7))))) n).bind fun r1 =>
   some ((r1.1.1,()),())
   else none
   else none
  else none
 else none
noncomputable abbrev akO:Con SR1:=⟨13,[.sh (.ro 1),.sh sI_,.sh sI_],[.sh sI_],fun x =>aez x.1 x.2.1 x.2.2.1⟩
theorem alS:CO Tryz.prog akO:=aaC aaB Tryz.func13 [ahn] ⟨agV,trivial⟩ [] trivial (fun _ =>[]) [] fun x =>by kernel_rfl
noncomputable def ajm (l:List EntV) (e:EntV) (at_:Int):Option ((List EntV×Unit)×(Unit)) :=
 if 0≤at_∧at_≤((l.length:Nat):Int) then
  if (((([]:List EntV).length+(l.take (at_:Int).toNat).length:Nat)):Int)<1000000000000 then
   if ((((([])++(l.take (at_:Int).toNat)).length+([e]:List EntV).length:Nat)):Int)<1000000000000 then
   if 0≤at_∧at_≤((l.length:Nat):Int) then
   if (((((([])++(l.take (at_:Int).toNat))++([e])).length+(l.drop (at_:Int).toNat).length:Nat)):Int)<1000000000000 then
   some ((((([])++(l.take (at_:Int).toNat))++([e]))++(l.drop (at_:Int).toNat),()),())
   else none
   else none
   else none
  else none
 else none
noncomputable abbrev aog:Con SR1:=⟨34,[.sh (.ro 5),.val 5,.sh sI_],[.sh (.row 5)],fun x =>ajm x.1 x.2.1 x.2.2.1⟩
theorem arZ:CO Tryz.prog aog:=aaC aaB Tryz.func34 [] trivial [] trivial (fun _ =>[]) [] fun x =>by kernel_rfl
noncomputable def aqK (raw:List Int) (at_:Int) (n:Int):Option ((List EntV×Unit)×(Unit)) :=
 (lpF (σ:=List EntV×Int×Unit) (β:=List EntV×Int×Unit) (fun self3 x1 =>
  if x1.2.1<n then
   (aps x1.2.1).bind fun r4 =>
   (aez raw (wi (at_+x1.2.1)) (wi (x1.2.1+1))).bind fun r5 =>
   (ajm x1.1 r4.1.1 r5.1.1).bind fun r6 =>
   self3 (r6.1.1,wi (x1.2.1+1),())
  else
  some (x1.1,x1.2.1,())
 ) 18446744073709551616 ([],0,())).bind fun z2 =>
 (aez raw (wi (at_+n)) (wi (n+1))).bind fun r7 =>
 (ajm z2.1 (⟨1,0⟩:EntV) r7.1.1).bind fun r8 =>
 (aez raw (wi ((wi (at_+n))+1)) 3).bind fun r9 =>
 (lpF (σ:=List EntV×Int×Unit) (β:=List EntV×Int×Unit) (fun self12 x10 =>
  if 0<x10.2.1 then
   (aez raw (wi ((wi (at_+n))+x10.2.1)) n).bind fun r13 =>
   (aps r13.1.1).bind fun r14 =>
   (aez raw (wi (at_+x10.2.1)) (wi (((x10.1.length:Nat):Int)+1))).bind fun r15 =>
   (ajm x10.1 r14.1.1 r15.1.1).bind fun r16 =>
   self12 (r16.1.1,wi (x10.2.1-1),())
  else
  some (x10.1,x10.2.1,())
 ) 18446744073709551616 (r8.1.1,r9.1.1,())).bind fun z11 =>
 some ((z11.1,()),())
noncomputable abbrev aqJ:Con SR1:=⟨20,[.sh (.ro 1),.sh sI_,.sh sI_],[.sh (.row 5)],fun x =>aqK x.1 x.2.1 x.2.2.1⟩
theorem at5:CO Tryz.prog aqJ:=aaC aaB Tryz.func20 [apr,akO,aog] ⟨aqL,alS,arZ,trivial⟩ [] trivial (fun _ =>[]) [(3,.loop [.rg 7 (.row 5),.rg 8 sI_] 18446744073709551616 0),(8,.loop [.rg 7 (.row 5),.rg 9 sI_] 18446744073709551616 2)] fun x =>by kernel_rfl
noncomputable def amU (c:Cfg):Option ((List EntV×Unit)×(Unit)) :=
 (lpF (σ:=List EntV×Int×Unit) (β:=List EntV×Int×Unit) (fun self3 x1 =>
  if x1.2.1<(wi (40*((c.subs.length:Nat):Int))) then
   (aps c.workers).bind fun r4 =>
   if (((x1.1.length+([r4.1.1]:List EntV).length:Nat)):Int)<1000000000000 then
   self3 (x1.1++([r4.1.1]),wi (x1.2.1+1),())
   else none
  else
  some (x1.1,x1.2.1,())
 ) 18446744073709551616 ([],0,())).bind fun z2 =>
 some ((z2.1,()),())
noncomputable abbrev aoe:Con SR1:=⟨18,[.val 13],[.sh (.row 5)],fun x =>amU x.1⟩
theorem arY:CO Tryz.prog aoe:=aaC aaB Tryz.func18 [apr] ⟨aqL,trivial⟩ [] trivial (fun _ =>[]) [(3,.loop [.rg 3 (.row 5),.rg 4 sI_] 18446744073709551616 0)] fun x =>by kernel_rfl
noncomputable def aj8 (b:List Int):Option ((List EntV×Unit)×(Unit)) :=
 (lpF (σ:=List EntV×Int×Unit) (β:=List EntV×Int×Unit) (fun self3 x1 =>
  if (wi (x1.2.1+1))<((b.length:Nat):Int) then
   if ((x1.1.length:Nat):Int)<65536 then
   if 0≤x1.2.1∧x1.2.1<((b.length:Nat):Int) then
   if 0≤wi (x1.2.1+1)∧wi (x1.2.1+1)<((b.length:Nat):Int) then
   if (agF b (wi (x1.2.1+1)))=(agF b (wi (x1.2.1+1))) then
   if (agF b x1.2.1)=(agF b x1.2.1) then
   if (Int.tmod (wi (agF b x1.2.1)) 4)=1 then
   if (((x1.1.length+([(⟨(Int.tmod (wi (agF b x1.2.1)) 4),0⟩:EntV)]:List EntV).length:Nat)):Int)<1000000000000 then
   self3 (x1.1++([(⟨(Int.tmod (wi (agF b x1.2.1)) 4),0⟩:EntV)]),wi (x1.2.1+2),())
   else none
   else
   if (Int.tmod (wi (agF b x1.2.1)) 4)=3 then
   if (((x1.1.length+([(⟨(Int.tmod (wi (agF b x1.2.1)) 4),0⟩:EntV)]:List EntV).length:Nat)):Int)<1000000000000 then
   self3 (x1.1++([(⟨(Int.tmod (wi (agF b x1.2.1)) 4),0⟩:EntV)]),wi (x1.2.1+2),())
   else none
   else
   if (((x1.1.length+([(⟨(Int.tmod (wi (agF b x1.2.1)) 4),wi (agF b (wi (x1.2.1+1)))⟩:EntV)]:List EntV).length:Nat)):Int)<1000000000000 then
   self3 (x1.1++([(⟨(Int.tmod (wi (agF b x1.2.1)) 4),wi (agF b (wi (x1.2.1+1)))⟩:EntV)]),wi (x1.2.1+2),())
   else none
   else none
   else none
   else none
   else none
   else
   some (x1.1,x1.2.1,())
  else
  some (x1.1,x1.2.1,())
 ) 18446744073709551616 ([],0,())).bind fun z2 =>
 some ((z2.1,()),())
noncomputable abbrev alM:Con SR1:=⟨33,[.sh (.ro 17)],[.sh (.row 5)],fun x =>aj8 x.1⟩
theorem apa:CO Tryz.prog alM:=aaC aaB Tryz.func33 [] trivial [] trivial (fun _ =>[]) [(3,.loop [.rg 3 (.row 5),.rg 4 sI_] 18446744073709551616 0)] fun x =>by kernel_rfl
noncomputable def amT (b:List Int) (n:Int):Option ((List EntV×Unit)×(Unit)) :=
 (aj8 b).bind fun r1 =>
 if n<((r1.1.1.length:Nat):Int) then
  if 0≤n∧n≤((r1.1.1.length:Nat):Int) then
   some ((r1.1.1.take (n:Int).toNat,()),())
  else none
 else
 some ((r1.1.1,()),())
noncomputable abbrev aod:Con SR1:=⟨19,[.sh (.ro 17),.sh sI_],[.sh (.row 5)],fun x =>amT x.1 x.2.1⟩
theorem arX:CO Tryz.prog aod:=aaC aaB Tryz.func19 [alM] ⟨apa,trivial⟩ [] trivial (fun _ =>[]) [] fun x =>by kernel_rfl
end
section
open Go
theorem ark (b:List Int) (l:List (List Int)) (hl:l.length≤1000000):aaI (aqI b l) fun o =>o.1.1=true→b.length≤400∧∀ x∈l,x.length≤400:=by
 unfold aqI
 refine aaI.bind (P:=fun z =>(∀ o,z=.inr o→o.1.1=false)∧(∀ y,z=.inl y→∀ x∈l,x.length≤400)) (ab8 (fun x =>0≤x.1∧x.1≤(l.length:Int)∧∀ i:Nat,(i:Int)<x.1→∀ y,l[i]?=some y→y.length≤400) (fun x =>((l.length:Int)-x.1).toNat) (fun self x ⟨q0,q1,q2⟩ ih =>?_) _ _ ⟨Int.le_refl 0,by show (0:Int)≤(l.length:Int); omega,fun i hi =>by omega⟩ (by show ((l.length:Int)-0).toNat<_; omega)) fun z hz =>?_
 rotate_left
 ·have e2:wi (x.1+1)=x.1+1:=aa2 (aae (by omega))
  rw [e2]
  refine aaI.ite (fun hlt =>.guard ⟨q0,hlt⟩ fun _ =>aaI.ite (fun _ =>.some_ ⟨fun o e =>(by cases e; rfl),fun y e =>(by cases e)⟩) fun h4 =>ih _ ⟨by show 0≤x.1+1; omega,by show x.1+1≤(l.length:Int); omega,fun i hi y hy =>?_⟩ (by show ((l.length:Int)-(x.1+1)).toNat<((l.length:Int)-x.1).toNat; omega)) fun hlt =>.some_ ⟨fun o e =>(by cases e),fun y e x' hx' =>?_⟩
  ·by_cases hi2:(i:Int)<x.1
   ·exact q2 i hi2 y hy
   ·have hi3:i=x.1.toNat:=by have:(i:Int)<x.1+1:=hi; omega
    have h5:=ab2 (d:=([]:List Int)) (xs:=l) (i:=x.1) ⟨q0,hlt⟩
    rw [hi3,h5] at hy
    cases hy
    omega
  ·obtain ⟨i,hi,rfl⟩:=List.getElem_of_mem hx'
   exact q2 i (by omega) _ (List.getElem?_eq_getElem hi)
 ·rcases z with y | o
  ·refine .some_ fun e =>⟨?_,hz.2 y rfl⟩
   have:((b.length:Nat):Int)≤400:=of_decide_eq_true e
   omega
  ·exact .some_ fun e =>by rw [hz.1 o rfl] at e; cases e
structure DecOk (c:Cfg):Prop where
 w:1≤c.workers∧c.workers≤4
 l:1≤c.levels∧c.levels≤4
 k:1≤c.classes∧c.classes≤3∧c.classes≤c.levels
 t:1≤c.tasks∧c.tasks≤12
 q:1≤c.deque∧c.deque≤4
 h:1≤c.heap∧c.heap≤4
 b:1≤c.batch∧c.batch≤c.deque
 a:0≤c.age∧c.age≤5
 p:1≤c.patience∧c.patience≤8
 pn:1≤c.progs.length∧c.progs.length≤4
 pl:∀ x∈c.progs,x.length≤5
 ps:∀ x∈c.progs,∀ i∈x,(i.op=0∧1≤i.a∧i.a≤4∧i.b=0)∨(i.op=1∧0≤i.a∧i.a<(c.progs.length:Int)∧0≤i.b∧i.b<c.levels)∨(i.op=2∧0≤i.a∧i.a≤3∧i.b=0)
 sn:c.subs.length≤5
 ss:∀ s∈c.subs,(0≤s.prog∧s.prog<(c.progs.length:Int))∧(0≤s.level∧s.level<c.levels)∧0≤s.deadline∧s.deadline≤15
structure CodOk (N:Int) (r:CodV):Prop where
 by_:∀ x∈r.inn,0≤x∧x≤255
 ln:r.inn.length≤1000000
 at_:0≤r.at_∧r.at_≤N
theorem ab3 {N:Int} {r:CodV} {k:Int} (h:CodOk N r) (hN:N≤1000000) (h1:1≤k) (h2:k≤1000):aaI (abR r k) fun o =>(0≤o.1.1∧o.1.1<k)∧CodOk (N+1) o.2.1:=by
 have ha:=h.at_
 have e1:wi (r.at_+1)=r.at_+1:=aa2 (aae (by omega))
 unfold abR
 rw [e1]
 refine aaI.ite (fun hlt =>.guard ⟨ha.1,hlt⟩ fun _ =>.guard (by omega) fun _ =>.some_ ⟨?_,h.by_,h.ln,by show 0≤r.at_+1; omega,by show r.at_+1≤N+1; omega⟩) fun _ =>.some_ ⟨⟨Int.le_refl 0,by show (0:Int)<k; omega⟩,h.by_,h.ln,by show 0≤r.at_+1; omega,by show r.at_+1≤N+1; omega⟩
 have hb:=h.by_ _ (alm (d:=dfR 17) (xs:=r.inn) (i:=r.at_) ⟨ha.1,hlt⟩)
 have e2:wi (agF r.inn r.at_)=agF r.inn r.at_:=aa2 (aae (x:=agF r.inn r.at_) ⟨by have:=hb.1; exact Int.le_trans (by decide) this,by have:=hb.2; exact Int.le_trans this (by decide)⟩)
 rw [e2]
 exact asx h1 hb.1
theorem CodOk.up {N M:Int} {r:CodV} (h:CodOk N r) (hl:N≤M):CodOk M r:=⟨h.by_,h.ln,h.at_.1,by have:=h.at_; omega⟩
def apW (n lv:Int) (i:Ins):Prop:=(i.op=0∧1≤i.a∧i.a≤4∧i.b=0)∨(i.op=1∧0≤i.a∧i.a<n∧0≤i.b∧i.b<lv)∨(i.op=2∧0≤i.a∧i.a≤3∧i.b=0)
def aCn (n lv:Int) (s:Sub):Prop:=(0≤s.prog∧s.prog<n)∧(0≤s.level∧s.level<lv)∧0≤s.deadline∧s.deadline≤15
structure NumOk (c:Cfg):Prop where
 w:1≤c.workers∧c.workers≤4
 l:1≤c.levels∧c.levels≤4
 k:1≤c.classes∧c.classes≤3∧c.classes≤c.levels
 t:1≤c.tasks∧c.tasks≤12
 q:1≤c.deque∧c.deque≤4
 h:1≤c.heap∧c.heap≤4
 b:1≤c.batch∧c.batch≤c.deque
 a:0≤c.age∧c.age≤5
 p:1≤c.patience∧c.patience≤8
theorem w1p {x:Int} (h:0≤x) (h2:x≤1000000):wi (1+x)=1+x:=aa2 (aae (by omega))
theorem apz {b:List Int} (hb:∀ x∈b,0≤x∧x≤255) (hl:b.length≤1000000):aaI (aj7 b) fun o =>DecOk o.1.1:=by
 unfold aj7
 refine (ab3 (N:=0) (k:=4) ⟨hb,hl,Int.le_refl 0,Int.le_refl 0⟩ (by decide) (by decide) (by decide)).bind fun r1 h1 =>?_
 refine (ab3 (k:=4) h1.2 (by decide) (by decide) (by decide)).bind fun r2 h2 =>?_
 have w1:=w1p h1.1.1 (by omega)
 have w2:=w1p h2.1.1 (by omega)
 rw [w1,w2]
 refine (ab3 h2.2 (by decide) (by split<;>omega) (by split<;>omega)).bind fun r3 h3 =>?_
 refine (ab3 (k:=12) h3.2 (by decide) (by decide) (by decide)).bind fun r4 h4 =>?_
 refine (ab3 (k:=4) h4.2 (by decide) (by decide) (by decide)).bind fun r5 h5 =>?_
 refine (ab3 (k:=4) h5.2 (by decide) (by decide) (by decide)).bind fun r6 h6 =>?_
 have h3':r3.1.1<3∧r3.1.1<1+r2.1.1:=by
  have:=h3.1.2
  split at this<;>omega
 have w3:=w1p h3.1.1 (by omega)
 have w4:=w1p h4.1.1 (by omega)
 have w5:=w1p h5.1.1 (by omega)
 have w6:=w1p h6.1.1 (by omega)
 rw [w3,w4,w5,w6]
 refine (ab3 h6.2 (by decide) (by omega) (by omega)).bind fun r7 h7 =>?_
 refine (ab3 (k:=6) h7.2 (by decide) (by decide) (by decide)).bind fun r8 h8 =>?_
 refine (ab3 (k:=8) h8.2 (by decide) (by decide) (by decide)).bind fun r9 h9 =>?_
 refine (ab3 (k:=4) h9.2 (by decide) (by decide) (by decide)).bind fun r10 h10 =>?_
 have w7:=w1p h7.1.1 (by omega)
 have w9:=w1p h9.1.1 (by omega)
 have w10:=w1p h10.1.1 (by omega)
 rw [w7,w9,w10]
 refine aaI.bind (P:=fun z =>CodOk 1000 z.2.1∧NumOk z.2.2.1∧z.2.2.1.levels=1+r2.1.1∧(z.2.2.1.progs.length:Int)=1+r10.1.1∧(∀ p∈z.2.2.1.progs,p.length≤5∧∀ i∈p,apW (1+r10.1.1) (1+r2.1.1) i)∧z.2.2.1.subs=[])
  (ab8 (fun x =>0≤x.1∧x.1≤1+r10.1.1∧CodOk (10+30*x.1) x.2.1∧NumOk x.2.2.1∧x.2.2.1.levels=1+r2.1.1∧(x.2.2.1.progs.length:Int)=x.1∧(∀ p∈x.2.2.1.progs,p.length≤5∧∀ i∈p,apW (1+r10.1.1) (1+r2.1.1) i)∧x.2.2.1.subs=[])
   (fun x =>(1+r10.1.1-x.1).toNat) (fun self x ⟨q0,q1,q2,q3,q4,q5,q6,q7⟩ ih =>?step) _ _ ⟨Int.le_refl 0,by show (0:Int)≤1+r10.1.1; omega,h10.2,?num,rfl,rfl,fun p hp =>(by cases hp),rfl⟩ (by show (1+r10.1.1-0).toNat<_; omega)) fun z hz =>?cont
 case step =>
  have f1:wi (x.1+1)=x.1+1:=aa2 (aae (by omega))
  refine aaI.ite (fun hlt =>?_) fun hlt =>.some_ ⟨q2.up (by omega),q3,q4,by show (x.2.2.1.progs.length:Int)=_; omega,q6,q7⟩
  have hlen:(x.2.2.1.progs.length:Int)<10:=by omega
  rw [f1]
  refine (ab3 (k:=6) q2 (by omega) (by decide) (by decide)).bind fun r14 h14 =>?_
  refine aaI.bind (P:=fun z =>z.1.length≤5∧(∀ i∈z.1,apW (1+r10.1.1) (1+r2.1.1) i)∧CodOk (10+30*x.1+26) z.2.2.1)
   (ab8 (fun y =>0≤y.2.1∧(y.1.length:Int)+y.2.1=r14.1.1∧CodOk (10+30*x.1+1+5*(r14.1.1-y.2.1)) y.2.2.1∧∀ i∈y.1,apW (1+r10.1.1) (1+r2.1.1) i)
    (fun y =>y.2.1.toNat) (fun self y ⟨p0,p1,p2,p3⟩ ih =>?_) _ _ ⟨h14.1.1,by show ((0:Nat):Int)+r14.1.1=_; omega,h14.2.up (by show 10+30*x.1+1≤10+30*x.1+1+5*(r14.1.1-r14.1.1); omega),fun i hi =>(by cases hi)⟩ (by show r14.1.1.toNat<_; omega)) fun z hz =>?_
  ·refine .guard (by show (((x.2.2.1.progs.length+1:Nat)):Int)<_; omega) fun _ =>ih _ ⟨by show 0≤x.1+1; omega,by show x.1+1≤_; omega,hz.2.2.up (by show 10+30*x.1+26≤10+30*(x.1+1); omega),⟨q3.w,q3.l,q3.k,q3.t,q3.q,q3.h,q3.b,q3.a,q3.p⟩,q4,?_,?_,q7⟩ ?_
   ·show (((x.2.2.1.progs++[z.1]).length:Nat):Int)=x.1+1
    rw [List.length_append,List.length_singleton]; omega
   ·intro p hp
    rcases List.mem_append.1 hp with hp | hp
    ·exact q6 p hp
    ·rw [List.mem_singleton] at hp; subst hp; exact ⟨hz.1,hz.2.1⟩
   ·show (1+r10.1.1-(x.1+1)).toNat<(1+r10.1.1-x.1).toNat
    omega
  ·have f2:wi (y.2.1-1)=y.2.1-1:=aa2 (aae (by omega))
   have hyl:y.1.length≤5:=by omega
   refine aaI.ite (fun hlt2 =>?_) fun hlt2 =>.some_ ⟨hyl,p3,p2.up (by omega)⟩
   rw [f2,q4]
   have nx:∀ (u:Ins) (r:CodV),apW (1+r10.1.1) (1+r2.1.1) u→CodOk (10+30*x.1+1+5*(r14.1.1-(y.2.1-1))) r→aaI (if (((y.1.length+([u]:List Ins).length:Nat)):Int)<1000000000000 then self (y.1++[u],y.2.1-1,r,()) else none) fun z =>z.1.length≤5∧(∀ i∈z.1,apW (1+r10.1.1) (1+r2.1.1) i)∧CodOk (10+30*x.1+26) z.2.2.1:=fun u r hu hr =>
    .guard (by show (((y.1.length+1:Nat)):Int)<_; omega) fun _ =>ih _ ⟨by show 0≤y.2.1-1; omega,by
     show (((y.1++[u]).length:Nat):Int)+(y.2.1-1)=_
     rw [List.length_append,List.length_singleton]; omega,hr,fun i hi =>by
     rcases List.mem_append.1 hi with hi | hi
     ·exact p3 i hi
     ·rw [List.mem_singleton] at hi; subst hi; exact hu⟩ (by show (y.2.1-1).toNat<y.2.1.toNat; omega)
   refine (ab3 (k:=3) p2 (by omega) (by decide) (by decide)).bind fun r18 h18 =>?_
   refine aaI.ite (fun e0 =>?_) fun e0 =>aaI.ite (fun e1 =>?_) fun e1 =>?_
   ·refine (ab3 (k:=4) h18.2 (by omega) (by decide) (by decide)).bind fun r19 h19 =>?_
    rw [w1p h19.1.1 (by omega)]
    exact nx _ _ (.inl ⟨e0,by show 1≤1+r19.1.1; omega,by show 1+r19.1.1≤4; omega,rfl⟩) (h19.2.up (by omega))
   ·refine (ab3 (k:=1+r10.1.1) h18.2 (by omega) (by omega) (by omega)).bind fun r20 h20 =>?_
    refine (ab3 (k:=1+r2.1.1) h20.2 (by omega) (by omega) (by omega)).bind fun r21 h21 =>?_
    exact nx _ _ (.inr (.inl ⟨e1,h20.1.1,h20.1.2,h21.1.1,h21.1.2⟩)) (h21.2.up (by omega))
   ·refine (ab3 (k:=4) h18.2 (by omega) (by decide) (by decide)).bind fun r22 h22 =>?_
    exact nx _ _ (.inr (.inr ⟨by show r18.1.1=2; omega,h22.1.1,by show r22.1.1≤3; omega,rfl⟩)) (h22.2.up (by omega))
 case num =>
  refine ⟨?_,?_,?_,?_,?_,?_,?_,?_,?_⟩
  ·exact ⟨by show 1≤1+r1.1.1; omega,by show 1+r1.1.1≤4; omega⟩
  ·exact ⟨by show 1≤1+r2.1.1; omega,by show 1+r2.1.1≤4; omega⟩
  ·exact ⟨by show 1≤1+r3.1.1; omega,by show 1+r3.1.1≤3; omega,by show 1+r3.1.1≤1+r2.1.1; omega⟩
  ·exact ⟨by show 1≤1+r4.1.1; omega,by show 1+r4.1.1≤12; omega⟩
  ·exact ⟨by show 1≤1+r5.1.1; omega,by show 1+r5.1.1≤4; omega⟩
  ·exact ⟨by show 1≤1+r6.1.1; omega,by show 1+r6.1.1≤4; omega⟩
  ·exact ⟨by show 1≤1+r7.1.1; omega,by show 1+r7.1.1≤1+r5.1.1; omega⟩
  ·exact ⟨h8.1.1,by show r8.1.1≤5; omega⟩
  ·exact ⟨by show 1≤1+r9.1.1; omega,by show 1+r9.1.1≤8; omega⟩
 case cont =>
  obtain ⟨g1,g2,g3,g4,g5,g6⟩:=hz
  refine (ab3 (k:=6) g1 (by decide) (by decide) (by decide)).bind fun r23 h23 =>?_
  refine aaI.bind (P:=fun y =>DecOk y.2.2.1)
   (ab8 (fun y =>0≤y.1∧(y.2.2.1.subs.length:Int)+y.1=r23.1.1∧CodOk (1001+5*(r23.1.1-y.1)) y.2.1∧NumOk y.2.2.1∧y.2.2.1.levels=1+r2.1.1∧(y.2.2.1.progs.length:Int)=1+r10.1.1∧(∀ p∈y.2.2.1.progs,p.length≤5∧∀ i∈p,apW (1+r10.1.1) (1+r2.1.1) i)∧∀ s∈y.2.2.1.subs,aCn (1+r10.1.1) (1+r2.1.1) s)
    (fun y =>y.1.toNat) (fun self y ⟨p0,p1,p2,p3,p4,p5,p6,p7⟩ ih =>?_) _ _ ⟨h23.1.1,by show ((z.2.2.1.subs.length:Nat):Int)+r23.1.1=r23.1.1; rw [g6]; show ((0:Nat):Int)+r23.1.1=r23.1.1; omega,h23.2.up (by show (1001:Int)≤1001+5*(r23.1.1-r23.1.1); omega),g2,g3,g4,g5,fun s hs =>by
     have hs2:s∈z.2.2.1.subs:=hs
     rw [g6] at hs2; cases hs2⟩ (by show r23.1.1.toNat<_; omega)) fun y hy =>.some_ hy
  have f2:wi (y.1-1)=y.1-1:=aa2 (aae (by omega))
  have hyl:y.2.2.1.subs.length≤5:=by omega
  refine aaI.ite (fun hlt =>?_) fun hlt =>.some_ ⟨p3.w,p3.l,p3.k,p3.t,p3.q,p3.h,p3.b,p3.a,p3.p,by show 1≤y.2.2.1.progs.length∧y.2.2.1.progs.length≤4; omega,fun x hx =>(p6 x hx).1,fun x hx i hi =>by
   have:=(p6 x hx).2 i hi
   rw [p5,p4]; exact this,hyl,fun s hs =>by
   have:=p7 s hs
   rw [p5,p4]; exact this⟩
  rw [f2,p4]
  refine (ab3 (k:=1+r10.1.1) p2 (by omega) (by omega) (by omega)).bind fun r27 h27 =>?_
  refine (ab3 (k:=1+r2.1.1) h27.2 (by omega) (by omega) (by omega)).bind fun r28 h28 =>?_
  refine (ab3 (k:=16) h28.2 (by omega) (by omega) (by omega)).bind fun r29 h29 =>?_
  refine .guard (by show (((y.2.2.1.subs.length+1:Nat)):Int)<_; omega) fun _ =>ih _ ⟨by show 0≤y.1-1; omega,?_,h29.2.up (by show 1001+5*(r23.1.1-y.1)+1+1+1≤1001+5*(r23.1.1-(y.1-1)); omega),⟨p3.w,p3.l,p3.k,p3.t,p3.q,p3.h,p3.b,p3.a,p3.p⟩,p4,p5,p6,?_⟩ (by show (y.1-1).toNat<y.1.toNat; omega)
  ·show (((y.2.2.1.subs++[_]).length:Nat):Int)+(y.1-1)=_
   rw [List.length_append,List.length_singleton]; omega
  ·intro s hs
   rcases List.mem_append.1 hs with hs | hs
   ·exact p7 s hs
   ·rw [List.mem_singleton] at hs; subst hs
    exact ⟨h27.1,h28.1,h29.1.1,by show r29.1.1≤15; omega⟩
end
end Go.Proofs.YtkmkhldmflebkaaGreat
