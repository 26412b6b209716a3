/- The two models: one event. The two models: their first states,and what the program's says of the tasks. The law ModelChanges in the evaluator's form. The two models: their answers to a list of events. The two models agree. The law ModelChanges,as a function of its arguments,always answers true. From the readings of the arguments to our words. From the readings of the arguments to our words: bytes,ints. -/
import Derived.Test.YtkmkhldmflebkaaGreatCzap
import Derived.Test.YtkmkhldmflebkaaGreatCzar
import Derived.Test.YtkmkhldmflebkaaGreatCzao
import Derived.Test.YtkmkhldmflebkaaGreatCzam
import Derived.Test.YtkmkhldmflebkaaGreatCzan
import Derived.Test.YtkmkhldmflebkaaGreatCzah
import Derived.OpenShut
import Derived.ProofKit
import Derived.Deep.Slices
import Derived.Deep.Fields
import Derived.ChangeSame
set_option linter.all false
namespace Go.Proofs.YtkmkhldmflebkaaGreat
section
open Go Go.RowKit
set_option maxRecDepth 10000
variable [Tb]
section
variable {n:Nat} {p:SyP} {r:SaV} {k w t o l:Int}
theorem aBx (hn:n≤999999) (h:BR n p r) (hw:w=p.c.workers) (ht:0≤t∧t<(p.tasks.length:Int)) (ho:0≤o∧o<p.c.workers)
  (hr:aal p ⟨18,w,t,o,l⟩=some ((true,()),(p,()))) (hf:aad r ⟨18,w,t,o,l⟩=some ((true,()),(r,()))) (hs:(aam p.works w).sleeps=false):StM n p r ⟨18,w,t,o,l⟩:=by
 have hwl:=h.wl
 have hwl2:=h.wl2
 refine al1 (aCu (h.po (by omega)) (by omega) ht hr hs) (azX (by rw [h.c]; exact hw) hf) ?_ (fun hC =>?_) rfl
 ·rw [h.c]; exact ⟨fun _ =>ho,fun _ =>True.intro⟩
 ·exact h.mono.setC hw (by omega) ⟨by rw [hw]; exact h.cl.1,hs⟩
theorem aw0 (hr:aal p ⟨k,w,t,o,l⟩=some ((false,()),(p,()))):aaj p ⟨k,w,t,o,l⟩=some ((false,()),(p,())):=by
 unfold aaj aan
 rw [hr,aav]; rfl
theorem aBj {q:SaV} (hf:aad r ⟨k,w,t,o,l⟩=some ((false,()),(q,()))):aas r ⟨k,w,t,o,l⟩=some ((false,()),(q,())):=by
 unfold aas
 rw [hf,aav]; rfl
theorem aCk (hw:0≤w∧w<(p.works.length:Int)) (hr:aal p ⟨k,w,t,o,l⟩=some ((true,()),(p,()))) (hs:¬ (aam p.works w).sleeps=decide (k=17)):aaj p ⟨k,w,t,o,l⟩=some ((false,()),(p,())):=by
 unfold aaj aan
 rw [hr,aav,if_neg (show ¬ (!true)=true by decide)]
 dsimp only
 rw [if_pos hw,if_pos hs]
 simp only [aa6,abH hw]
theorem asN {e:Ev} {C:Prop} {r':SaV} (h:RS r e C r') (hC:¬ C):∃ q,aas r e=some ((false,()),(q,())):=by
 obtain ⟨b,q,h1,h2,_⟩:=h
 cases b with
 | true =>exact absurd (h2 rfl).1 hC
 | false =>exact ⟨q,h1⟩
set_option maxHeartbeats 1000000 in
theorem az3 (hz:1≤p.c.tasks) (hn:n≤999999) (h:BR n p r) (h1:1≤k) (h2:k≤19) (hp:¬ rgP p.c k w t o l) (hr:rgR r.c k w t o l) (hf:aad r ⟨k,w,t,o,l⟩=some ((true,()),(r,()))):∃ q,aas r ⟨k,w,t,o,l⟩=some ((false,()),(q,())):=by
 have hl:=h.tl2
 have hl1:=h.tl
 have hw2:=h.wl2
 rw [h.c] at hr
 have hk:k=1∨k=2∨k=3∨k=4∨k=5∨k=6∨k=7∨k=8∨k=9∨k=10∨k=11∨k=12∨k=13∨k=14∨k=15∨k=16∨k=17∨k=18∨k=19:=by omega
 unfold rgP at hp
 unfold rgR at hr
 have h0:=h.of0
 have nb:=h.qu.nb
 have ql:=h.qu.pm.length_eq
 rcases hk with rfl | rfl | rfl | rfl | rfl | rfl | rfl | rfl | rfl | rfl | rfl | rfl | rfl | rfl | rfl | rfl | rfl | rfl | rfl
 all_goals simp (config:={ decide:=true }) only [if_true,if_false,true_and,and_true] at hp hr
 ·exact asN (rk1 (by omega) (by rw [h.of]; exact h0.1) (by omega) hf) (fun hC =>by have:=hC.1; rw [h.c] at this; omega)
 ·exact asN (rk2 (h.ro (by omega)) hf) (fun hC =>by have:=hC.1; rw [h.c] at this; omega)
 ·exact absurd hr hp
 ·exact absurd hr hp
 ·exact absurd hr hp
 ·exact absurd hr hp
 ·exact absurd hr hp
 ·exact absurd hr hp
 ·exact absurd hr hp
 ·exact absurd hr hp
 ·exact absurd hr hp
 ·exact absurd hr hp
 ·exact absurd hr hp
 ·exact asN (aCs (h.ro (by omega)) (by omega) (by omega) hf) (fun hC =>by have:=hC.2.2.1; rw [h.c] at this; omega)
 ·exact absurd hr hp
 ·exact absurd hr hp
 ·exact absurd hr hp
 ·by_cases hw:w=p.c.workers
  ·exact asN (azX (by rw [h.c]; exact hw) hf) (fun hC =>by rw [h.c] at hC; omega)
  ·exact asN (aCr (h.ro (by omega)) (by omega) (by omega) hf) (fun hC =>by rw [h.c] at hC; omega)
 ·exact absurd hr hp
theorem auY (hv:VC p.c) (hn:n≤999999) (h:BR n p r) (e:Ev):StM n p r e:=by
 obtain ⟨k,w,t,o,l⟩:=e
 have hl:=h.tl2
 have hl1:=h.tl
 have hw1:=h.wl
 have hw2:=h.wl2
 have hz:=hv.tk
 by_cases k1:k<1
 ·exact .inr ⟨_,_,aw0 (asZ k1),ab9,aBj (ayM k1)⟩
 by_cases k2:19<k
 ·exact .inr ⟨_,_,aw0 (as1 k2),ab9,aBj (ayO k2)⟩
 obtain ⟨b,h1,h2⟩:=as0 (s:=p) (w:=w) (t:=t) (o:=o) (l:=l) (show 1≤k by omega) (by omega)
 obtain ⟨b',h3,h4⟩:=ayN (s:=r) (w:=w) (t:=t) (o:=o) (l:=l) (show 1≤k by omega) (by omega) (by rw [h.c]; omega) (by rw [h.c]; exact hw2)
 by_cases hp:rgP p.c k w t o l
 rotate_left
 ·have hb:b=false:=by
   cases b with
   | true =>exact absurd (h2.1 rfl) hp
   | false =>rfl
  subst hb
  cases b' with
  | false =>exact .inr ⟨_,_,aw0 h1,ab9,aBj h3⟩
  | true =>
   obtain ⟨q,hq⟩:=az3 hz hn h (by omega) (by omega) hp (h4.1 rfl).1 h3
   exact .inr ⟨_,_,aw0 h1,ab9,hq⟩
 obtain rfl:b=true:=h2.2 hp
 have hk:k=1∨k=2∨k=3∨k=4∨k=5∨k=6∨k=7∨k=8∨k=9∨k=10∨k=11∨k=12∨k=13∨k=14∨k=15∨k=16∨k=17∨k=18∨k=19:=by omega
 have hpc:=hp
 have hrg:rgR r.c k w t o l:=by
  rw [h.c]
  unfold rgP at hp
  unfold rgR
  rcases hk with rfl | rfl | rfl | rfl | rfl | rfl | rfl | rfl | rfl | rfl | rfl | rfl | rfl | rfl | rfl | rfl | rfl | rfl | rfl
  all_goals simp (config:={ decide:=true }) only [if_true,if_false,true_and,and_true] at hp ⊢
  all_goals first | exact hp | omega
 have hwr:0≤w∧w≤p.c.workers:=by
  unfold rgP at hp
  have:=hp.2.2.2
  split at this
  ·omega
  ·split at this<;>omega
 have htr:0≤t∧t<p.c.tasks:=by
  unfold rgP at hp
  have:=hp.1
  split at this<;>omega
 by_cases hs:(aam p.works w).sleeps=decide (k=17)
 rotate_left
 ·have hb:b'=false:=by
   cases b' with
   | false =>rfl
   | true =>
    have h5:=(h4.1 rfl).2
    by_cases hw:w=p.c.workers
    ·exfalso
     rw [hw,h.cl.2] at hs
     have:k=17:=by
      by_cases e:k=17
      ·exact e
      ·exact absurd (decide_eq_false e).symm hs
     subst this
     unfold rgP at hp
     simp (config:={ decide:=true }) only [if_true,if_false] at hp
     omega
    ·have W:=h.wk w (by omega)
     have:=h5 (by rw [h.c]; omega)
     rw [← W.sleeps] at this
     exact absurd this hs
  subst hb
  exact .inr ⟨_,_,aCk (by omega) h1 hs,ab9,aBj h3⟩
 have hb:b'=true:=h4.2 ⟨hrg,fun hw =>by
  rw [h.c] at hw
  rw [← (h.wk w hw).sleeps]; exact hs⟩
 subst hb
 have ht:0≤t∧t<(p.tasks.length:Int):=by omega
 unfold rgP at hp
 rcases hk with rfl | rfl | rfl | rfl | rfl | rfl | rfl | rfl | rfl | rfl | rfl | rfl | rfl | rfl | rfl | rfl | rfl | rfl | rfl
 all_goals simp (config:={ decide:=true }) only [if_true,if_false,true_and,and_true] at hp
 all_goals first
  | have hs:(aam p.works w).sleeps=false:=hs
  | have hs:(aam p.works w).sleeps=true:=hs
 ·exact st1 hv hn h hp.2.2 ht h1 h3 hs
 ·exact st2 hn h hp.2 ht h1 h3 hs
 ·exact st3 hv hn h ⟨by omega,ht,h1,h3⟩ (by omega) hs
 ·exact st4 hv hn h ⟨by omega,ht,h1,h3⟩ hs
 ·exact st5 hn h ⟨by omega,ht,h1,h3⟩ hs
 ·exact st6 hv hn h ⟨by omega,ht,h1,h3⟩ (by omega) hs
 ·exact st7 hn h ⟨by omega,ht,h1,h3⟩ hs
 ·exact st8 hv hn h ⟨by omega,ht,h1,h3⟩ (by omega) hs
 ·exact st9 hn h ⟨by omega,ht,h1,h3⟩ hs
 ·exact aCL hv hn h ⟨by omega,ht,h1,h3⟩ hs
 ·exact aCK hn (by omega) h ⟨by omega,ht,h1,h3⟩ hs
 ·exact aCJ hn h ⟨by omega,ht,h1,h3⟩ hs
 ·exact aCI hn h ⟨by omega,ht,h1,h3⟩ hs
 ·exact aCH hn h ⟨by omega,ht,h1,h3⟩ (by omega) hs
 ·exact aCG hn h ⟨by omega,ht,h1,h3⟩ hs
 ·exact aCF hn h ⟨by omega,ht,h1,h3⟩ hs
 ·exact aCE hn h ⟨by omega,ht,h1,h3⟩ hs
 ·by_cases hw:w=p.c.workers
  ·exact aBx hn h hw ht (by omega) h1 h3 hs
  ·exact aCD hn h ⟨by omega,ht,h1,h3⟩ (by omega) hs
 ·exact aCC hn h ⟨by omega,ht,h1,h3⟩ hs
end
section
theorem aaI.map {α β:Type} {o:Option α} {f:α→β} {P:β→Prop} (h:aaI o fun x =>P (f x)):aaI (Option.map f o) P:=by
 obtain ⟨x,rfl,hx⟩:=h
 exact ⟨_,rfl,hx⟩
def tk0:TkP:=⟨0,-1,-1,[],0,[],-1⟩
def tr0:TkV:=⟨⟨0,-1,-1,-1,-1⟩,0,0,[]⟩
def wk0:WkP:=⟨[],false,0,0,0,false,⟨0,0,0,0,0⟩⟩
def wr0:WlV:=⟨[],-1,0,0,false,⟨0,0,0,0,0⟩⟩
def pN (c:Cfg):SyP:=⟨c,List.replicate c.tasks.toNat tk0,List.replicate (c.workers+1).toNat wk0,0,0,⟨[],0⟩⟩
def rN (c:Cfg):SaV:=⟨c,List.replicate c.tasks.toNat tr0,List.replicate c.workers.toNat wr0,⟨[],0⟩,0⟩
theorem amq {α:Type} {x:α} {i:Nat}:List.replicate i x++[x]=List.replicate (i+1) x:=by
 rw [List.replicate_succ']
theorem ayu {c:Cfg} (ht:0≤c.tasks∧c.tasks≤1000000) (hw:0≤c.workers∧c.workers≤1000000):aaI (aed c) fun o =>o.1.1=pN c:=by
 unfold aed
 have e1:wi (c.workers+1)=c.workers+1:=aa2 (aae (by omega))
 rw [e1]
 refine aaI.guard rfl fun _ =>aaI.guard (by omega) fun _ =>aaI.guard rfl fun _ =>aaI.guard rfl fun _ =>aaI.guard rfl fun _ =>aaI.guard rfl fun _ =>aaI.guard rfl fun _ =>aaI.guard rfl fun _ =>aaI.guard rfl fun _ =>aaI.guard rfl fun _ =>aaI.guard rfl fun _ =>?_
 refine aaI.bind (P:=fun z =>z.2.1=pN c) (ab8 (fun x =>∃ i:Nat,x.1=(i:Int)∧(i:Int)≤c.tasks∧x.2.1={ pN c with tasks:=List.replicate i tk0 }) (fun x =>(c.tasks-x.1).toNat) (fun self x ⟨i,q1,q2,q3⟩ ih =>?_) _ _ ⟨0,rfl,ht.1,rfl⟩ (by show (c.tasks-0).toNat<_; omega)) fun z hz =>.some_ hz
 obtain ⟨x1,x2,u⟩:=x
 obtain rfl:x1=(i:Int):=q1
 obtain rfl:x2=_:=q3
 have e2:wi ((i:Int)+1)=((i+1:Nat):Int):=aa2 (aae (by omega))
 refine aaI.ite (fun h =>?_) fun h =>.some_ ?_
 ·have h:(i:Int)<c.tasks:=h
  refine aaI.guard (by show (((List.replicate i tk0).length+1:Nat):Int)<_; rw [List.length_replicate]; omega) fun _ =>?_
  show aaI (self (wi ((i:Int)+1),{ pN c with tasks:=List.replicate i tk0++[tk0] },())) _
  rw [e2,amq]
  exact ih _ ⟨i+1,rfl,by omega,rfl⟩ (by show (c.tasks-((i+1:Nat):Int)).toNat<(c.tasks-(i:Int)).toNat; omega)
 ·have h:¬ (i:Int)<c.tasks:=h
  have e3:c.tasks.toNat=i:=by omega
  show ({ pN c with tasks:=List.replicate i tk0 }:SyP)=pN c
  unfold pN
  rw [e3]
theorem atM {c:Cfg} (ht:0≤c.tasks∧c.tasks≤1000000) (hw:0≤c.workers∧c.workers≤1000000):aaI (acM c) fun o =>o.1.1=rN c:=by
 unfold acM
 refine aaI.bind (P:=fun z =>z.2.1={ rN c with works:=[] }) (ab8 (fun x =>∃ i:Nat,x.1=(i:Int)∧(i:Int)≤c.tasks∧x.2.1={ rN c with tasks:=List.replicate i tr0,works:=[] }) (fun x =>(c.tasks-x.1).toNat) (fun self x ⟨i,q1,q2,q3⟩ ih =>?_) _ _ ⟨0,rfl,ht.1,rfl⟩ (by show (c.tasks-0).toNat<_; omega)) fun z hz =>?_
 rotate_left
 ·obtain ⟨x1,x2,u⟩:=x
  obtain rfl:x1=(i:Int):=q1
  obtain rfl:x2=_:=q3
  have e2:wi ((i:Int)+1)=((i+1:Nat):Int):=aa2 (aae (by omega))
  refine aaI.ite (fun h =>?_) fun h =>.some_ ?_
  ·have h:(i:Int)<c.tasks:=h
   refine aaI.guard (by show (((List.replicate i tr0).length+1:Nat):Int)<_; rw [List.length_replicate]; omega) fun _ =>?_
   show aaI (self (wi ((i:Int)+1),{ rN c with tasks:=List.replicate i tr0++[tr0],works:=[] },())) _
   rw [e2,amq]
   exact ih _ ⟨i+1,rfl,by omega,rfl⟩ (by show (c.tasks-((i+1:Nat):Int)).toNat<(c.tasks-(i:Int)).toNat; omega)
  ·have h:¬ (i:Int)<c.tasks:=h
   have e3:c.tasks.toNat=i:=by omega
   show ({ rN c with tasks:=List.replicate i tr0,works:=[] }:SaV)={ rN c with works:=[] }
   unfold rN
   rw [e3]
 rw [hz]
 refine aaI.bind (P:=fun z =>z.2.1=rN c) (ab8 (fun x =>∃ i:Nat,x.1=(i:Int)∧(i:Int)≤c.workers∧x.2.1={ rN c with works:=List.replicate i wr0 }) (fun x =>(c.workers-x.1).toNat) (fun self x ⟨i,q1,q2,q3⟩ ih =>?_) _ _ ⟨0,rfl,hw.1,rfl⟩ (by show (c.workers-0).toNat<_; omega)) fun z hz =>.some_ hz
 obtain ⟨x1,x2,u⟩:=x
 obtain rfl:x1=(i:Int):=q1
 obtain rfl:x2=_:=q3
 have e2:wi ((i:Int)+1)=((i+1:Nat):Int):=aa2 (aae (by omega))
 refine aaI.ite (fun h =>?_) fun h =>.some_ ?_
 ·have h:(i:Int)<c.workers:=h
  refine aaI.guard (by show (((List.replicate i wr0).length+1:Nat):Int)<_; rw [List.length_replicate]; omega) fun _ =>?_
  show aaI (self (wi ((i:Int)+1),{ rN c with works:=List.replicate i wr0++[wr0] },())) _
  rw [e2,amq]
  exact ih _ ⟨i+1,rfl,by omega,rfl⟩ (by show (c.workers-((i+1:Nat):Int)).toNat<(c.workers-(i:Int)).toNat; omega)
 ·have h:¬ (i:Int)<c.workers:=h
  have e3:c.workers.toNat=i:=by omega
  show ({ rN c with works:=List.replicate i wr0 }:SaV)=rN c
  unfold rN
  rw [e3]
theorem aq4 {α:Type} {d x:α} {n:Nat} {i:Int} (h:0≤i∧i<(n:Int)):atL d (List.replicate n x) i=x:=by
 unfold atL
 rw [List.getElem?_replicate,if_pos (by omega)]; rfl
theorem aA0 {c:Cfg} (ht:1≤c.tasks∧c.tasks≤256) (hw:0≤c.workers∧c.workers≤1000000):BR 0 (pN c) (rN c):=by
 have a1:∀ i,0≤i∧i<((pN c).tasks.length:Int)→aah (pN c).tasks i=tk0:=fun i hi =>aq4 (d:=(dfR 70:TkP)) (by
  unfold pN at hi; rw [List.length_replicate] at hi; exact hi)
 have a2:∀ i,0≤i∧i<((rN c).tasks.length:Int)→aaa (rN c).tasks i=tr0:=fun i hi =>aq4 (d:=(dfR 61:TkV)) (by
  unfold rN at hi; rw [List.length_replicate] at hi; exact hi)
 have l1:(pN c).tasks.length=c.tasks.toNat:=List.length_replicate ..
 have l2:(rN c).tasks.length=c.tasks.toNat:=List.length_replicate ..
 have l3:(pN c).works.length=(c.workers+1).toNat:=List.length_replicate ..
 have l4:(rN c).works.length=c.workers.toNat:=List.length_replicate ..
 have b1:∀ i,0≤i∧i≤c.workers→aam (pN c).works i=wk0:=fun i hi =>aq4 (d:=(dfR 71:WkP)) (by omega)
 have b2:∀ i,0≤i∧i<c.workers→aac (rN c).works i=wr0:=fun i hi =>aq4 (d:=(dfR 62:WlV)) (by omega)
 have h0:aeq (rN c).tasks=0:=List.countP_eq_zero.2 fun x hx =>by
  obtain rfl:=List.eq_of_mem_replicate hx
  decide
 exact {
  c:=rfl
  tl:=by rw [l1]; show ((c.tasks.toNat:Nat):Int)=c.tasks; omega
  tl2:=by rw [l1,l2]
  tl3:=by rw [l1]; omega
  wl:=by rw [l3]; show (((c.workers+1).toNat:Nat):Int)=c.workers+1; omega
  wl2:=by rw [l4]; show ((c.workers.toNat:Nat):Int)=c.workers; omega
  tk:=fun i hi =>by
   rw [a1 i hi,a2 i (by omega)]
   exact { ph:=rfl,lv:=rfl,pa:=rfl,wt:=rfl,pc:=rfl,kids:=rfl,kn:=Nat.le_refl _,at0:=⟨Int.le_refl _,Int.le_refl _⟩,prog:=fun h =>absurd rfl h,pl:=Nat.zero_le _,ot:=fun _ =>rfl,wr:=(fun h =>by cases h),wk:=fun _ =>rfl }
  wk:=fun i hi =>by
   have hi:0≤i∧i<c.workers:=hi
   rw [b1 i (by omega),b2 i hi]
   exact { stack:=rfl,sn:=Nat.le_refl _,won:=(fun h =>nomatch h),woff:=fun _ =>rfl,sleeps:=rfl,last:=rfl }
  cl:=by
   show (aam (pN c).works c.workers).stack=[]∧(aam (pN c).works c.workers).sleeps=false
   rw [b1 _ (by omega)]; exact ⟨rfl,rfl⟩
  of:=rfl
  of0:=⟨Int.le_refl _,Int.le_refl _⟩
  qu:={ s:=⟨fun i j _ hj =>absurd hj (Nat.not_lt_zero _),fun i hi =>absurd hi (Nat.not_lt_zero _)⟩,c:=rfl,pm:=List.Perm.refl _,nb:=⟨⟨Int.le_refl _,Int.le_refl _⟩,Nat.le_refl _⟩ }
  kn:=by rw [h0]; rfl
  st:=fun w hw t ht =>by
   have hw:0≤w∧w<c.workers:=hw
   rw [b2 w hw] at ht
   cases ht
  nd:=fun w hw =>by
   have hw:0≤w∧w<c.workers:=hw
   rw [b2 w hw]
   exact List.nodup_nil
  run:=fun t ht hp =>by
   have ht:0≤t∧t<((pN c).tasks.length:Int):=ht
   rw [a2 t (by omega)] at hp
   cases hp
  rk:=⟨fun _ =>0,fun i hi =>.inl (by rw [a2 i hi]; rfl),fun i hi =>⟨by show (0:Nat)<(rN c).tasks.length; rw [l2]; omega,fun hp =>by rw [a2 i hi] at hp; exact absurd rfl hp⟩⟩ }
structure VV (q:SyP) (i:Int) (v:VwV):Prop where
 ph:v.phase=(aah q.tasks i).ph
 lv:v.level=(aah q.tasks i).lv
 pa:v.parent=(aah q.tasks i).pa
 ot:v.other=if (aah q.tasks i).ph=3 then (aah q.tasks i).wt else -1
 w0:(aah q.tasks i).ph≠2→v.worker=-1
 w1:(aah q.tasks i).ph=2→(0≤v.worker∧v.worker<(q.works.length:Int))∧i∈(aam q.works v.worker).stack∧∀ u,0≤u∧u<v.worker→i ∉ (aam q.works u).stack
def aBv (q:SyP) (ws:List WkP):Int×Int×Int×Int×Int×Int×Int×Int×Int×List (List Ins)×List Sub×List WkP×Int×Int×List KyV×Int×Unit:=(q.c.workers,q.c.levels,q.c.classes,q.c.tasks,q.c.deque,q.c.heap,q.c.batch,q.c.age,q.c.patience,q.c.progs,q.c.subs,ws,q.offers,q.known,q.queue.keys,q.queue.count,())
theorem avn {q:SyP} {vs:List VwV} (hl:q.tasks.length≤1000000) (hw:q.works.length≤1000000) (hst:∀ w,0≤w∧w<(q.works.length:Int)→(aam q.works w).stack.length≤1000000) (hlen:vs.length=q.tasks.length) (hv:∀ (i:Nat) (h:i<vs.length),VV q (i:Int) vs[i]):aaI (acz q) fun o =>o.1.1=vs:=by
 unfold acz
 refine aaI.bind (P:=fun z =>z.1=vs) (ab8 (fun x =>∃ i:Nat,x.2.1=(i:Int)∧i≤vs.length∧x.1=vs.take i∧x.2.2.1=q.tasks∧x.2.2.2.1=aBv q q.works) (fun x =>((vs.length:Int)-x.2.1).toNat) (fun self x ⟨i,q1,q2,q3,q4,q5⟩ ih =>?_) _ _ ⟨0,rfl,Nat.zero_le _,rfl,rfl,rfl⟩ (by show ((vs.length:Int)-0).toNat<_; omega)) fun z hz =>.some_ hz
 obtain ⟨x1,x2,x3,x4,u⟩:=x
 obtain rfl:x2=(i:Int):=q1
 obtain rfl:x1=vs.take i:=q3
 obtain rfl:x3=q.tasks:=q4
 obtain rfl:x4=aBv q q.works:=q5
 have e1:wi ((i:Int)+1)=((i+1:Nat):Int):=aa2 (aae (by omega))
 refine aaI.ite (fun h =>?_) fun h =>.some_ ?_
 rotate_left
 ·have h:¬ (i:Int)<(q.tasks.length:Int):=h
  show vs.take i=vs
  exact List.take_of_length_le (by omega)
 have h:(i:Int)<(q.tasks.length:Int):=h
 have hi:i<vs.length:=by omega
 have hin:0≤(i:Int)∧(i:Int)<(q.tasks.length:Int):=⟨by omega,h⟩
 have V:=hv i hi
 have htk:vs.take (i+1)=vs.take i++[vs[i]]:=List.take_succ_eq_append_getElem hi
 have hgl:(((vs.take i).length+1:Nat):Int)<1000000000000:=by rw [List.length_take]; omega
 have hme:((vs.length:Int)-((i+1:Nat):Int)).toNat<((vs.length:Int)-(i:Int)).toNat:=by omega
 -- what follows when the view has been made
 have go:∀ (v:VwV) (ws:List WkP) (ts:List TkP),v=vs[i]→ws=q.works→ts=q.tasks→aaI (self (vs.take i++[v],wi ((i:Int)+1),ts,aBv q ws,())) fun z =>z.1=vs:=fun v ws ts e2 e3 e4 =>by
  subst e2 e3 e4
  rw [e1]
  exact ih _ ⟨i+1,rfl,hi,htk.symm,rfl,rfl⟩ hme
 have hts:q.tasks.set ((i:Int)).toNat (aah q.tasks (i:Int))=q.tasks:=abO hin
 refine aaI.guard hin fun _ =>aaI.ite (fun h3 =>?_) fun h3 =>aaI.ite (fun h2 =>?_) fun h2 =>?_
 ·have h3:(aah q.tasks (i:Int)).ph=3:=h3
  refine aaI.ite (fun h2 =>?_) fun h2 =>?_
  ·have h2:(aah q.tasks (i:Int)).ph=2:=h2
   omega
  ·refine aaI.guard hgl fun _ =>go _ _ _ ?_ rfl hts
   have k1:=V.ot
   rw [if_pos h3] at k1
   have k2:=V.w0 (by omega)
   have:=V.ph
   have:=V.lv
   have:=V.pa
   generalize vs[i]=v at *
   cases v
   simp only at *
   subst_vars
   rfl
 ·have h3:¬ (aah q.tasks (i:Int)).ph=3:=h3
  have h2:(aah q.tasks (i:Int)).ph=2:=h2
  obtain ⟨w1,w2,w3⟩:=V.w1 h2
  have k1:=V.ot
  rw [if_neg h3] at k1
  obtain ⟨m,hm⟩:∃ m:Nat,vs[i].worker=(m:Int):=⟨vs[i].worker.toNat,by omega⟩
  rw [hm] at w1 w2 w3
  have hvw:∀ w:Int,w=(m:Int)→(⟨(aah q.tasks (i:Int)).ph,(aah q.tasks (i:Int)).lv,(aah q.tasks (i:Int)).pa,w,-1⟩:VwV)=vs[i]:=fun w hw =>by
   have:=V.ph
   have:=V.lv
   have:=V.pa
   generalize vs[i]=v at *
   cases v
   simp only at *
   subst_vars
   rfl
  refine aaI.bind (P:=fun z =>∃ o,z=.inr o∧o.1=vs) (ab8 (fun y =>∃ j:Nat,y.1=(j:Int)∧j≤m∧y.2.1=q.works) (fun y =>((m:Int)-y.1).toNat) (fun self2 y ⟨j,r1,r2,r3⟩ ih2 =>?_) _ _ ⟨0,rfl,Nat.zero_le _,rfl⟩ (by show ((m:Int)-0).toNat<_; omega)) fun z ⟨o,hz,ho⟩ =>?_
  rotate_left
  ·obtain ⟨y1,y2,u2⟩:=y
   obtain rfl:y1=(j:Int):=r1
   obtain rfl:y2=q.works:=r3
   have e2:wi ((j:Int)+1)=((j+1:Nat):Int):=aa2 (aae (by omega))
   have hj:0≤(j:Int)∧(j:Int)<(q.works.length:Int):=by omega
   have hws:q.works.set ((j:Int)).toNat (aam q.works (j:Int))=q.works:=abH hj
   have hsl:=hst _ hj
   refine aaI.ite (fun _ =>aaI.guard hj fun _ =>?_) fun hn =>absurd hj.2 hn
   refine aaI.bind (P:=fun z =>(j<m∧∃ a,z=.inl a)∨(j=m∧∃ o,z=.inr (.inr o)∧o.1=vs)) (ab8 (fun y =>∃ k:Nat,y.1=(k:Int)∧k≤(aam q.works (j:Int)).stack.length∧∀ k':Nat,k'<k→¬ (i:Int)=aaf (aam q.works (j:Int)).stack (k':Int)) (fun y =>(((aam q.works (j:Int)).stack.length:Int)-y.1).toNat) (fun self3 y ⟨k,s1,s2,s3⟩ ih3 =>?_) _ _ ⟨0,rfl,Nat.zero_le _,fun k' h' =>absurd h' (Nat.not_lt_zero _)⟩ (by show (((aam q.works (j:Int)).stack.length:Int)-0).toNat<_; omega)) fun z hz =>?_
   rotate_left
   ·obtain ⟨y1,u3,u4⟩:=y
    obtain rfl:y1=(k:Int):=s1
    have e3:wi ((k:Int)+1)=((k+1:Nat):Int):=aa2 (aae (by omega))
    refine aaI.ite (fun hk =>?_) fun hk =>.some_ ?_
    ·have hk:(k:Int)<((aam q.works (j:Int)).stack.length:Int):=hk
     have hkn:k<(aam q.works (j:Int)).stack.length:=by omega
     refine aaI.guard ⟨by show (0:Int)≤(k:Int); omega,hk⟩ fun _ =>aaI.ite (fun he =>aaI.map (aaI.ite (fun _ =>aaI.map ?_) fun hn =>absurd (show (0:Int)≤(k:Int) by omega) hn)) fun he =>?_
     ·have he:(i:Int)=aaf (aam q.works (j:Int)).stack (k:Int):=he
      have hmem:(i:Int)∈(aam q.works (j:Int)).stack:=by
       rw [he]; exact alm (d:=(dfR 1:Int)) ⟨by omega,hk⟩
      have hjm:j=m:=by
       rcases Nat.lt_or_ge j m with hlt | hge
       ·exact absurd hmem (w3 (j:Int) (by omega))
       ·omega
      refine aaI.guard hgl fun _ =>?_
      refine (go _ _ _ (hvw _ (by rw [hjm])) hws hts).mono fun z hz =>.inr ⟨hjm,z,rfl,hz⟩
     ·have he:¬ (i:Int)=aaf (aam q.works (j:Int)).stack (k:Int):=he
      show aaI (self3 (wi ((k:Int)+1),(),())) _
      rw [e3]
      refine ih3 _ ⟨k+1,rfl,hkn,fun k' h' =>?_⟩ (by show (((aam q.works (j:Int)).stack.length:Int)-((k+1:Nat):Int)).toNat<(((aam q.works (j:Int)).stack.length:Int)-(k:Int)).toNat; omega)
      rcases Nat.lt_or_ge k' k with h5 | h5
      ·exact s3 k' h5
      ·obtain rfl:k'=k:=by omega
       exact he
    ·have hk:¬ (k:Int)<((aam q.works (j:Int)).stack.length:Int):=hk
     rcases Nat.lt_or_ge j m with hlt | hge
     ·exact .inl ⟨hlt,_,rfl⟩
     ·obtain rfl:j=m:=by omega
      obtain ⟨a,ha,hb⟩:=List.getElem_of_mem w2
      exfalso
      refine s3 a (by omega) ?_
      have a1:=ab2 (α:=Int) (d:=(dfR 1:Int)) (xs:=(aam q.works (j:Int)).stack) (i:=(a:Int)) ⟨by omega,by omega⟩
      rw [Int.toNat_natCast,List.getElem?_eq_getElem ha] at a1
      exact hb.symm.trans (Option.some.inj a1)
   ·rcases hz with ⟨hlt,a,rfl⟩ | ⟨hjm,o,rfl,ho⟩
    ·show aaI (self2 (wi ((j:Int)+1),q.works.set ((j:Int)).toNat (aam q.works (j:Int)),())) _
     rw [e2,hws]
     exact ih2 _ ⟨j+1,rfl,hlt,rfl⟩ (by show ((m:Int)-((j+1:Nat):Int)).toNat<((m:Int)-(j:Int)).toNat; omega)
    ·exact .some_ ⟨o,rfl,ho⟩
  ·subst hz
   exact .some_ ho
 ·have h3:¬ (aah q.tasks (i:Int)).ph=3:=h3
  have h2:¬ (aah q.tasks (i:Int)).ph=2:=h2
  refine aaI.guard hgl fun _ =>go _ _ _ ?_ rfl hts
  have k1:=V.ot
  rw [if_neg h3] at k1
  have k2:=V.w0 h2
  have:=V.ph
  have:=V.lv
  have:=V.pa
  generalize vs[i]=v at *
  cases v
  simp only at *
  subst_vars
  rfl
end
end
section
open Go Go.RowKit
set_option maxRecDepth 100000
variable [Tb]
abbrev awL:List Ev:=([(⟨1,1,0,0,0⟩:Ev),(⟨13,0,0,0,0⟩:Ev),(⟨5,0,0,0,0⟩:Ev),(⟨10,0,0,0,0⟩:Ev)])
noncomputable def acj  : Option ((Cfg×Unit)×(Unit)) :=
 (akR ([])).bind fun r1 =>
 some ((({ r1.1.1 with subs:=[(⟨0,0,0⟩:Sub)] }:Cfg),()),())
noncomputable abbrev ae7:Con SR1:=⟨21,[],[.val 13],fun x =>acj ⟩
theorem ahA:CO Tryz.prog ae7:=aaC aaB Tryz.func21 [akQ] ⟨alT,trivial⟩ [] trivial (fun _ =>[]) [] fun x =>by kernel_rfl
noncomputable def adg  : Option ((Bool×Unit)×(Unit)) :=
 (acj).bind fun r1 =>
 (adN r1.1.1 awL).bind fun r2 =>
 ((
  if 0≤(0:Int)∧(0:Int)<((awL.length:Nat):Int) then
   if 0≤(1:Int)∧(1:Int)<((awL.length:Nat):Int) then
   if 0≤(2:Int)∧(2:Int)<((awL.length:Nat):Int) then
   if 0≤(2:Int)∧(2:Int)<((awL.length:Nat):Int) then
   agr (
   (acj).bind fun r5 =>
   if ((aa5 awL 2).kind)=((aa5 awL 2).kind) then
   if ((aa5 awL 2).worker)=((aa5 awL 2).worker) then
   if ((aa5 awL 2).task)=((aa5 awL 2).task) then
   if ((aa5 awL 2).other)=((aa5 awL 2).other) then
   if ((aa5 awL 2).level)=((aa5 awL 2).level) then
   if ((aa5 awL 2).kind)=((aa5 awL 2).kind) then
   if ((aa5 awL 2).worker)=((aa5 awL 2).worker) then
   if ((aa5 awL 2).task)=((aa5 awL 2).task) then
   if ((aa5 awL 2).other)=((aa5 awL 2).other) then
   if ((aa5 awL 2).level)=((aa5 awL 2).level) then
   if ((aa5 awL 1).kind)=((aa5 awL 1).kind) then
   if ((aa5 awL 1).worker)=((aa5 awL 1).worker) then
   if ((aa5 awL 1).task)=((aa5 awL 1).task) then
   if ((aa5 awL 1).other)=((aa5 awL 1).other) then
   if ((aa5 awL 1).level)=((aa5 awL 1).level) then
   if ((aa5 awL 0).kind)=((aa5 awL 0).kind) then
   if ((aa5 awL 0).worker)=((aa5 awL 0).worker) then
   if ((aa5 awL 0).task)=((aa5 awL 0).task) then
   if ((aa5 awL 0).other)=((aa5 awL 0).other) then
   if ((aa5 awL 0).level)=((aa5 awL 0).level) then
   (adN r5.1.1 ([aa5 awL 0,aa5 awL 1,aa5 awL 2,aa5 awL 2])).bind fun r6 =>
   some (r6.1.1,r6.1.2.1,())
   else none
   else none
   else none
   else none
   else none
   else none
   else none
   else none
   else none
   else none
   else none
   else none
   else none
   else none
   else none
   else none
   else none
   else none
   else none
   else none
   ) (
   (acj).bind fun r3 =>
   if ((aa5 awL 2).kind)=((aa5 awL 2).kind) then
   if ((aa5 awL 2).worker)=((aa5 awL 2).worker) then
   if ((aa5 awL 2).task)=((aa5 awL 2).task) then
   if ((aa5 awL 2).other)=((aa5 awL 2).other) then
   if ((aa5 awL 2).level)=((aa5 awL 2).level) then
   if ((aa5 awL 2).kind)=((aa5 awL 2).kind) then
   if ((aa5 awL 2).worker)=((aa5 awL 2).worker) then
   if ((aa5 awL 2).task)=((aa5 awL 2).task) then
   if ((aa5 awL 2).other)=((aa5 awL 2).other) then
   if ((aa5 awL 2).level)=((aa5 awL 2).level) then
   if ((aa5 awL 1).kind)=((aa5 awL 1).kind) then
   if ((aa5 awL 1).worker)=((aa5 awL 1).worker) then
   if ((aa5 awL 1).task)=((aa5 awL 1).task) then
   if ((aa5 awL 1).other)=((aa5 awL 1).other) then
   if ((aa5 awL 1).level)=((aa5 awL 1).level) then
   if ((aa5 awL 0).kind)=((aa5 awL 0).kind) then
   if ((aa5 awL 0).worker)=((aa5 awL 0).worker) then
   if ((aa5 awL 0).task)=((aa5 awL 0).task) then
   if ((aa5 awL 0).other)=((aa5 awL 0).other) then
   if ((aa5 awL 0).level)=((aa5 awL 0).level) then
   (adN r3.1.1 ([aa5 awL 0,aa5 awL 1,aa5 awL 2,aa5 awL 2])).bind fun r4 =>
   some (r4.1.1,r4.1.2.1,())
   else none
   else none
   else none
   else none
   else none
   else none
   else none
   else none
   else none
   else none
   else none
   else none
   else none
   else none
   else none
   else none
   else none
   else none
   else none
   else none
   )
   else none
   else none
   else none
  else none
 ):Option (Int×Int×Unit)).bind fun z7 =>
 if r2.1.1=4 then
  if r2.1.2.1=0 then
   if z7.1=3 then
   some ((decide (z7.2.1=6),()),())
   else
   some ((false,()),())
  else
  some ((false,()),())
 else
 some ((false,()),())
noncomputable abbrev adS:Con SR1:=⟨11,[],[.sh .b],fun x =>adg ⟩
theorem afM:CO Tryz.prog adS:=aaC aaB Tryz.func11 [ae7,ag1] ⟨ahA,aiK,trivial⟩ [] trivial (fun _ =>[]) [(4,.cut [.rg 4 sI_,.rg 5 sI_] [0,10,11])] fun x =>by kernel_rfl
noncomputable def ack  : Option ((Bool×Unit)×(Unit)) :=
 (acj).bind fun r1 =>
 (adN r1.1.1 awL).bind fun r2 =>
 if 0≤(0:Int)∧(0:Int)<((awL.length:Nat):Int) then
  if 0≤(1:Int)∧(1:Int)<((awL.length:Nat):Int) then
   if 0≤(2:Int)∧(2:Int)<((awL.length:Nat):Int) then
   if 0≤(2:Int)∧(2:Int)<((awL.length:Nat):Int) then
   (acj).bind fun r3 =>
   (adN r3.1.1 ([aa5 awL 0,aa5 awL 1,aa5 awL 2,aa5 awL 2])).bind fun r4 =>
   if r2.1.1=4 then
   if r2.1.2.1=0 then
   if r4.1.1=3 then
   some ((decide (r4.1.2.1=6),()),())
   else
   some ((false,()),())
   else
   some ((false,()),())
   else
   some ((false,()),())
   else none
   else none
  else none
 else none
noncomputable abbrev aee:Con SR1:=⟨11,[],[.sh .b],fun x =>ack ⟩
theorem agB  : adg  = ack  := by
 unfold adg ack
 simp only [ag2,if_true,acL,ad9]
 try rfl
theorem agA:CO Tryz.prog aee:=apD afM fun x out hx =>(show adS.spec x=some out from (agB ).trans hx)
noncomputable def acQ (y0:Cfg) (y1:List Ev):Option ((Bool×Unit)×(Unit)) :=
 (adN y0 y1).bind fun r1 =>
 (adl y0 y1).bind fun r2 =>
 (abu y0 y1).bind fun r3 =>
 if r1.1.1≠r3.1.2.1 then
  some ((false,()),())
 else
 if r1.1.2.1≠r3.1.2.2.1 then
  some ((false,()),())
 else
 if r2.1.2.1≠r3.1.2.1 then
  some ((false,()),())
 else
 if r2.1.2.2.1≠r3.1.2.2.1 then
  some ((false,()),())
 else
 if ((r2.1.1.length:Nat):Int)≠((r3.1.1.length:Nat):Int) then
  some ((false,()),())
 else
 (lpF (σ:=Int×Unit) (β:=(Int×Unit)⊕((Bool×Unit)×(Unit))) (fun self6 x4 =>
  if x4.1<((r2.1.1.length:Nat):Int) then
   if 0≤x4.1∧x4.1<((r2.1.1.length:Nat):Int) then
   if 0≤x4.1∧x4.1<((r3.1.1.length:Nat):Int) then
   if ¬ (((asg r2.1.1 x4.1).phase)=((ash r3.1.1 x4.1).phase)∧((asg r2.1.1 x4.1).level)=((ash r3.1.1 x4.1).level)∧((asg r2.1.1 x4.1).parent)=((ash r3.1.1 x4.1).parent)∧((asg r2.1.1 x4.1).worker)=((ash r3.1.1 x4.1).worker)∧((asg r2.1.1 x4.1).other)=((ash r3.1.1 x4.1).other)∧True) then
   Option.map Sum.inr (
   some ((false,()),())
   )
   else
   self6 (wi (x4.1+1),())
   else none
   else none
  else
  some (Sum.inl (x4.1,()))
 ) 18446744073709551616 (0,())).bind fun z5 =>match z5 with
 | .inr o7 =>some o7
 | .inl z5 =>
 some ((true,()),())
noncomputable abbrev aef:Con SR1:=⟨12,[.val 13,.sh (.ro 2)],[.sh .b],fun x =>acQ x.1 x.2.1⟩
theorem agC:CO Tryz.prog aef:=aaC aaB Tryz.func12 [ag1,aga,ad2] ⟨aiK,ahW,af0,trivial⟩ [] trivial (fun _ =>[]) [(7,.loopR [.rg 13 sI_] 18446744073709551616 0)] fun x =>by kernel_rfl
noncomputable def amR (y0:Cfg) (y1:List Int) (y2:List Int):Option ((List Ev×Unit)×(Unit)) :=
 (aqs y0).bind fun r1 =>
 (amU y0).bind fun r2 =>
 if 0≤(if wi (40*((y0.subs.length:Nat):Int))<wi (2*((y1.length:Nat):Int)) then wi (40*((y0.subs.length:Nat):Int)) else wi (2*((y1.length:Nat):Int)))∧(if wi (40*((y0.subs.length:Nat):Int))<wi (2*((y1.length:Nat):Int)) then wi (40*((y0.subs.length:Nat):Int)) else wi (2*((y1.length:Nat):Int)))≤((r2.1.1.length:Nat):Int) then
  (akB r1.1.1 (r2.1.1.take ((if wi (40*((y0.subs.length:Nat):Int))<wi (2*((y1.length:Nat):Int)) then wi (40*((y0.subs.length:Nat):Int)) else wi (2*((y1.length:Nat):Int))):Int).toNat)).bind fun r3 =>
  (amT y1 200).bind fun r4 =>
  (akB r3.2.1 r4.1.1).bind fun r5 =>
  (lpF (σ:=Int×EngV×Unit) (β:=Int×EngV×Unit) (fun self8 x6 =>
   if x6.1<((y2.length:Nat):Int) then
   if x6.1<60 then
   (aqK y2 (wi (5*x6.1)) (wi (y0.workers+1))).bind fun r9 =>
   (akB x6.2.1 r9.1.1).bind fun r10 =>
   self8 (wi (x6.1+1),r10.2.1,())
   else
   some (x6.1,x6.2.1,())
   else
   some (x6.1,x6.2.1,())
  ) 18446744073709551616 (0,r5.2.1,())).bind fun z7 =>
  some ((z7.2.1.e.evs,()),())
 else none
noncomputable abbrev aob:Con SR1:=⟨9,[.val 13,.sh (.ro 17),.sh (.ro 1)],[.sh (.row 2)],fun x =>amR x.1 x.2.1 x.2.2.1⟩
theorem arV:CO Tryz.prog aob:=aaC aaB Tryz.func9 [aqr,aoe,aqq,aod,aqJ] ⟨atj,arY,ati,arX,at5,trivial⟩ [] trivial (fun _ =>[]) [(5,.loop [.rg 8 sI_,.rg 7 (.own 16)] 18446744073709551616 0)] fun x =>by kernel_rfl
noncomputable def acw (y0:List Int) (y1:List Int) (y2:List Int) (y3:List Int):Option ((Bool×Unit)×(Unit)) :=
 (aqI y0 ([y2,y3])).bind fun r1 =>
 if (!r1.1.1)=true then
  some ((true,()),())
 else
 if 600<((y1.length:Nat):Int) then
  some ((true,()),())
 else
 (akR y0).bind fun r2 =>
 (amR r2.1.1 y1 y2).bind fun r3 =>
 if (((([]:List Ev).length+r3.1.1.length:Nat)):Int)<1000000000000 then
  (lpF (σ:=List Ev×Int×Unit) (β:=List Ev×Int×Unit) (fun self6 x4 =>
   if (wi (x4.2.1+1))<((y3.length:Nat):Int) then
   if x4.2.1<6 then
   if 1<((x4.1.length:Nat):Int) then
   (aez y3 x4.2.1 (wi (((x4.1.length:Nat):Int)-1))).bind fun r7 =>
   (aez y3 (wi (x4.2.1+1)) 5).bind fun r8 =>
   (aez y3 (wi (x4.2.1+1)) 8).bind fun r9 =>
   if r9.1.1=0 then
   if 0≤r7.1.1∧r7.1.1≤((x4.1.length:Nat):Int) then
   if r7.1.1=r7.1.1 then
   if 0≤wi (r7.1.1+1)∧wi (r7.1.1+1)≤((x4.1.length:Nat):Int) then
   if r7.1.1≤wi (r7.1.1+1) then
   if ((((x4.1.take (r7.1.1:Int).toNat).length+(x4.1.drop (wi (r7.1.1+1):Int).toNat).length:Nat)):Int)<1000000000000 then
   self6 ((x4.1.take (r7.1.1:Int).toNat)++(x4.1.drop (wi (r7.1.1+1):Int).toNat),wi (x4.2.1+2),())
   else none
   else none
   else none
   else none
   else none
   else
   if r9.1.1=1 then
   if 0≤r7.1.1∧r7.1.1≤((x4.1.length:Nat):Int) then
   if 0≤r7.1.1∧r7.1.1<((x4.1.length:Nat):Int) then
   if 0≤r7.1.1∧r7.1.1≤((x4.1.length:Nat):Int) then
   agr (
   if ((aa5 x4.1 r7.1.1).kind)=((aa5 x4.1 r7.1.1).kind) then
   if ((aa5 x4.1 r7.1.1).worker)=((aa5 x4.1 r7.1.1).worker) then
   if ((aa5 x4.1 r7.1.1).task)=((aa5 x4.1 r7.1.1).task) then
   if ((aa5 x4.1 r7.1.1).other)=((aa5 x4.1 r7.1.1).other) then
   if ((aa5 x4.1 r7.1.1).level)=((aa5 x4.1 r7.1.1).level) then
   ag2 (
   if (((([]:List Ev).length+(x4.1.take (r7.1.1:Int).toNat).length:Nat)):Int)<1000000000000 then
   if ((aa5 x4.1 r7.1.1).kind)=((aa5 x4.1 r7.1.1).kind) then
   if ((aa5 x4.1 r7.1.1).worker)=((aa5 x4.1 r7.1.1).worker) then
   if ((aa5 x4.1 r7.1.1).task)=((aa5 x4.1 r7.1.1).task) then
   if ((aa5 x4.1 r7.1.1).other)=((aa5 x4.1 r7.1.1).other) then
   if ((aa5 x4.1 r7.1.1).level)=((aa5 x4.1 r7.1.1).level) then
   if ((((([])++(x4.1.take (r7.1.1:Int).toNat)).length+([aa5 x4.1 r7.1.1]:List Ev).length:Nat)):Int)<1000000000000 then
   if (((((([])++(x4.1.take (r7.1.1:Int).toNat))++([aa5 x4.1 r7.1.1])).length+(x4.1.drop (r7.1.1:Int).toNat).length:Nat)):Int)<1000000000000 then
   self6 (((([])++(x4.1.take (r7.1.1:Int).toNat))++([aa5 x4.1 r7.1.1]))++(x4.1.drop (r7.1.1:Int).toNat),wi (x4.2.1+2),())
   else none
   else none
   else none
   else none
   else none
   else none
   else none
   else none
   )
   else none
   else none
   else none
   else none
   else none
   ) (
   if ((aa5 x4.1 r7.1.1).kind)=((aa5 x4.1 r7.1.1).kind) then
   if ((aa5 x4.1 r7.1.1).worker)=((aa5 x4.1 r7.1.1).worker) then
   if ((aa5 x4.1 r7.1.1).task)=((aa5 x4.1 r7.1.1).task) then
   if ((aa5 x4.1 r7.1.1).other)=((aa5 x4.1 r7.1.1).other) then
   if ((aa5 x4.1 r7.1.1).level)=((aa5 x4.1 r7.1.1).level) then
   if (((([]:List Ev).length+(x4.1.take (r7.1.1:Int).toNat).length:Nat)):Int)<1000000000000 then
   if ((aa5 x4.1 r7.1.1).kind)=((aa5 x4.1 r7.1.1).kind) then
   if ((aa5 x4.1 r7.1.1).worker)=((aa5 x4.1 r7.1.1).worker) then
   if ((aa5 x4.1 r7.1.1).task)=((aa5 x4.1 r7.1.1).task) then
   if ((aa5 x4.1 r7.1.1).other)=((aa5 x4.1 r7.1.1).other) then
   if ((aa5 x4.1 r7.1.1).level)=((aa5 x4.1 r7.1.1).level) then
   if ((((([])++(x4.1.take (r7.1.1:Int).toNat)).length+([aa5 x4.1 r7.1.1]:List Ev).length:Nat)):Int)<1000000000000 then
   if (((((([])++(x4.1.take (r7.1.1:Int).toNat))++([aa5 x4.1 r7.1.1])).length+(x4.1.drop (r7.1.1:Int).toNat).length:Nat)):Int)<1000000000000 then
   self6 (((([])++(x4.1.take (r7.1.1:Int).toNat))++([aa5 x4.1 r7.1.1]))++(x4.1.drop (r7.1.1:Int).toNat),wi (x4.2.1+2),())
   else none
   else none
   else none
   else none
   else none
   else none
   else none
   else none
   else none
   else none
   else none
   else none
   else none
   )
   else none
   else none
   else none
   else
   if r9.1.1=2 then
   if 0≤wi (r7.1.1+1)∧wi (r7.1.1+1)<((x4.1.length:Nat):Int) then
   if 0≤r7.1.1∧r7.1.1<((x4.1.length:Nat):Int) then
   if 0≤r7.1.1∧r7.1.1<((x4.1.length:Nat):Int) then
   if 0≤wi (r7.1.1+1)∧wi (r7.1.1+1)<(((x4.1.set r7.1.1.toNat (aa5 x4.1 (wi (r7.1.1+1)))).length:Nat):Int) then
   self6 ((x4.1.set r7.1.1.toNat (aa5 x4.1 (wi (r7.1.1+1)))).set (wi (r7.1.1+1)).toNat (aa5 x4.1 r7.1.1),wi (x4.2.1+2),())
   else none
   else none
   else none
   else none
   else
   if r9.1.1=3 then
   if 0≤r7.1.1∧r7.1.1<((x4.1.length:Nat):Int) then
   if 0≤r7.1.1∧r7.1.1<((x4.1.length:Nat):Int) then
   self6 (x4.1.set r7.1.1.toNat ({ aa5 x4.1 r7.1.1 with worker:=wi (((aa5 x4.1 r7.1.1).worker)+(wi (r8.1.1-2))) }:Ev),wi (x4.2.1+2),())
   else none
   else none
   else
   if r9.1.1=4 then
   if 0≤r7.1.1∧r7.1.1<((x4.1.length:Nat):Int) then
   if 0≤r7.1.1∧r7.1.1<((x4.1.length:Nat):Int) then
   self6 (x4.1.set r7.1.1.toNat ({ aa5 x4.1 r7.1.1 with task:=wi (((aa5 x4.1 r7.1.1).task)+(wi (r8.1.1-2))) }:Ev),wi (x4.2.1+2),())
   else none
   else none
   else
   if r9.1.1=5 then
   if 0≤r7.1.1∧r7.1.1<((x4.1.length:Nat):Int) then
   if 0≤r7.1.1∧r7.1.1<((x4.1.length:Nat):Int) then
   self6 (x4.1.set r7.1.1.toNat ({ aa5 x4.1 r7.1.1 with other:=wi (((aa5 x4.1 r7.1.1).other)+(wi (r8.1.1-2))) }:Ev),wi (x4.2.1+2),())
   else none
   else none
   else
   if r9.1.1=6 then
   if 0≤r7.1.1∧r7.1.1<((x4.1.length:Nat):Int) then
   if 0≤r7.1.1∧r7.1.1<((x4.1.length:Nat):Int) then
   self6 (x4.1.set r7.1.1.toNat ({ aa5 x4.1 r7.1.1 with level:=wi (((aa5 x4.1 r7.1.1).level)+(wi (r8.1.1-2))) }:Ev),wi (x4.2.1+2),())
   else none
   else none
   else
   if 0≤r7.1.1∧r7.1.1<((x4.1.length:Nat):Int) then
   if 0≤r7.1.1∧r7.1.1<((x4.1.length:Nat):Int) then
   self6 (x4.1.set r7.1.1.toNat ({ aa5 x4.1 r7.1.1 with kind:=wi (((aa5 x4.1 r7.1.1).kind)+(wi (r8.1.1-2))) }:Ev),wi (x4.2.1+2),())
   else none
   else none
   else
   some (x4.1,x4.2.1,())
   else
   some (x4.1,x4.2.1,())
   else
   some (x4.1,x4.2.1,())
  ) 18446744073709551616 (([])++r3.1.1,0,())).bind fun z5 =>
  (ack).bind fun r10 =>
  if r10.1.1=true then
   (acQ r2.1.1 z5.1).bind fun r11 =>
   some ((r11.1.1,()),())
  else
  some ((false,()),())
 else none
noncomputable abbrev aeH:Con SR1:=⟨4,[.sh (.ro 17),.sh (.ro 17),.sh (.ro 1),.sh (.ro 1)],[.sh .b],fun x =>acw x.1 x.2.1 x.2.2.1 x.2.2.2.1⟩
theorem aev:CO Tryz.prog aeH:=aaC aaB Tryz.func4 [aqH,akQ,aob,akO,aee,aef] ⟨at4,alT,arV,alS,agA,agC,trivial⟩ [] trivial (fun _ =>[]) [(15,.wk 2),(6,.loop [.rg 10 (.row 2),.rg 11 sI_] 18446744073709551616 0)] fun x =>by kernel_rfl
end
section
open Go Go.RowKit
set_option maxRecDepth 10000
variable [Tb]
inductive Trc (l:List Ev) (p0:SyP) (r0:SaV):Nat→SyP→SaV→Prop
 | z:Trc l p0 r0 0 p0 r0
 | s {i:Nat} {p p':SyP} {r r':SaV}:Trc l p0 r0 i p r→(h:i<l.length)→aaj p l[i]=some ((true,()),(p',()))→aas r l[i]=some ((true,()),(r',()))→Trc l p0 r0 (i+1) p' r'
section
variable {l:List Ev} {p0:SyP} {r0:SaV}
theorem Trc.det {i:Nat} {p:SyP} {r:SaV} (h:Trc l p0 r0 i p r):∀ {p':SyP} {r':SaV},Trc l p0 r0 i p' r'→p=p'∧r=r':=by
 induction h with
 | z =>
  intro p' r' h
  cases h
  exact ⟨rfl,rfl⟩
 | s h1 hi h2 h3 ih =>
  intro p' r' h
  cases h with
  | s k1 ki k2 k3 =>
   obtain ⟨rfl,rfl⟩:=ih k1
   have e2:=h2.symm.trans k2
   have e3:=h3.symm.trans k3
   simp only [Option.some.injEq,Prod.mk.injEq,true_and,and_true] at e2 e3
   exact ⟨e2,e3⟩
theorem Trc.le {i:Nat} {p:SyP} {r:SaV} (h:Trc l p0 r0 i p r):i≤l.length:=by
 cases h with
 | z =>exact Nat.zero_le _
 | s _ h _ _ =>exact h
theorem Trc.next {m:Nat} {p:SyP} {r:SaV} (h:Trc l p0 r0 m p r):∀ {i:Nat} {a:SyP} {b:SaV},i<m→Trc l p0 r0 i a b→∃ (hi:i<l.length) (a':SyP) (b':SaV),aaj a l[i]=some ((true,()),(a',()))∧aas b l[i]=some ((true,()),(b',()))∧Trc l p0 r0 (i+1) a' b':=by
 induction h with
 | z =>intro i a b hi; exact absurd hi (Nat.not_lt_zero _)
 | @s j p p' r r' h1 hj h2 h3 ih =>
  intro i a b hi hab
  rcases Nat.lt_or_ge i j with hlt | hge
  ·exact ih hlt hab
  ·obtain rfl:i=j:=by omega
   obtain ⟨rfl,rfl⟩:=h1.det hab
   exact ⟨hj,_,_,h2,h3,.s h1 hj h2 h3⟩
theorem Trc.br {i:Nat} {p:SyP} {r:SaV} (h:Trc l p0 r0 i p r) (hv:VC p0.c) (hb:BR 0 p0 r0) (hl:l.length≤999999):BR i p r∧p.c=p0.c:=by
 induction h with
 | z =>exact ⟨hb,rfl⟩
 | @s j a a' b b' h1 hi h2 h3 ih =>
  obtain ⟨k1,k2⟩:=ih
  rcases auY (by rw [k2]; exact hv) (by omega) k1 l[j] with ⟨q,q',e1,e2,e3,e4⟩ | ⟨q,q',e1,e2,e3⟩
  ·have a1:=e1.symm.trans h2
   have a2:=e2.symm.trans h3
   simp only [Option.some.injEq,Prod.mk.injEq,true_and,and_true] at a1 a2
   subst a1 a2
   exact ⟨e3,e4.trans k2⟩
  ·have a1:=e1.symm.trans h2
   simp at a1
theorem avq (hv:VC p0.c) (hb:BR 0 p0 r0) (hl:l.length≤999999):∀ (d i:Nat) (p:SyP) (r:SaV),d=l.length-i→Trc l p0 r0 i p r→∃ m p r,Trc l p0 r0 m p r∧(m=l.length∨∃ (hm:m<l.length) (q:SyP) (q':SaV),aaj p l[m]=some ((false,()),(q,()))∧SameV p q∧aas r l[m]=some ((false,()),(q',()))):=by
 intro d
 induction d with
 | zero =>
  intro i p r hd h
  have:=h.le
  exact ⟨i,p,r,h,.inl (by omega)⟩
 | succ d ih =>
  intro i p r hd h
  have hi:i<l.length:=by omega
  obtain ⟨k1,k2⟩:=h.br hv hb hl
  rcases auY (by rw [k2]; exact hv) (by omega) k1 l[i] with ⟨q,q',e1,e2,e3,e4⟩ | ⟨q,q',e1,e2,e3⟩
  ·exact ih (i+1) q q' (by omega) (.s h hi e1 e2)
  ·exact ⟨i,p,r,h,.inr ⟨hi,q,q',e1,e2,e3⟩⟩
theorem aA4 {i:Nat} (h:i<l.length):aa5 l (i:Int)=l[i]:=by
 have a1:=ab2 (α:=Ev) (d:=(dfR 2:Ev)) (xs:=l) (i:=(i:Int)) ⟨by omega,by omega⟩
 rw [Int.toNat_natCast,List.getElem?_eq_getElem h] at a1
 exact (Option.some.inj a1).symm
theorem aCw {α β:Type} {d:α} {f:α→β} {xs ys:List α} (h:ys.map f=xs.map f) {i:Int} (hi:0≤i):f (atL d ys i)=f (atL d xs i):=by
 have h1:(ys.map f)[i.toNat]?=(xs.map f)[i.toNat]?:=by rw [h]
 rw [List.getElem?_map,List.getElem?_map] at h1
 unfold atL
 cases hy:ys[i.toNat]?<;>cases hx:xs[i.toNat]?<;>rw [hy,hx] at h1<;>simp at h1 ⊢
 exact h1
theorem ap0 {n:Nat} {p q:SyP} {r:SaV} (h:BR n p r) (hn:n≤999999) (hs:SameV p q) (hw:p.c.workers≤1000):aaI (acz q) fun o =>o.1.1=r.tasks.map (·.view):=by
 have l1:q.tasks.length=p.tasks.length:=by have:=congrArg List.length hs.t; simpa using this
 have l2:q.works.length=p.works.length:=by have:=congrArg List.length hs.w; simpa using this
 have hl:=h.tl2
 have hl3:=h.tl3
 have hwl:=h.wl
 have hwl2:=h.wl2
 have tk:∀ i,0≤i→viP (aah q.tasks i)=viP (aah p.tasks i):=fun i hi =>aCw (d:=(dfR 70:TkP)) hs.t hi
 have st:∀ i,0≤i→(aam q.works i).stack=(aam p.works i).stack:=fun i hi =>aCw (d:=(dfR 71:WkP)) (f:=fun (x:WkP) =>x.stack) hs.w hi
 have PO1:=h.po (by omega)
 refine avn (by omega) (by omega) (fun w hw =>by rw [st w hw.1]; exact PO1.stk w (by omega)) (by rw [List.length_map]; omega) (fun i hi =>?_)
 rw [List.length_map] at hi
 have hip:0≤(i:Int)∧(i:Int)<(p.tasks.length:Int):=by omega
 have T:=h.tk (i:Int) hip
 have hv:(r.tasks.map (·.view))[i]'(by rw [List.length_map]; exact hi)=(aaa r.tasks (i:Int)).view:=by
  rw [List.getElem_map]
  have a1:=ab2 (α:=TkV) (d:=(dfR 61:TkV)) (xs:=r.tasks) (i:=(i:Int)) ⟨by omega,by omega⟩
  rw [Int.toNat_natCast,List.getElem?_eq_getElem hi] at a1
  exact congrArg _ (Option.some.inj a1)
 rw [hv]
 have V:=tk (i:Int) (by omega)
 unfold viP at V
 simp only [Prod.mk.injEq] at V
 obtain ⟨v1,v2,v3,v4⟩:=V
 refine ⟨by rw [v1,T.ph],by rw [v2,T.lv],by rw [v3,T.pa],?_,fun h2 =>T.wk (by rw [← v1]; exact h2),fun h2 =>?_⟩
 ·rw [v1,v4,← T.wt]
  split
  ·rfl
  ·rename_i h3; exact T.ot h3
 ·have h2:(aaa r.tasks (i:Int)).view.phase=2:=by rw [← T.ph,← v1]; exact h2
  obtain ⟨k1,k2⟩:=h.run (i:Int) hip h2
  refine ⟨by omega,?_,fun u hu hm =>?_⟩
  ·rw [st _ k1.1,(h.wk _ k1).stack]; exact k2
  ·rw [st u hu.1,(h.wk u (by omega)).stack] at hm
   have:=(h.st u (by omega) (i:Int) hm).2.2
   omega
theorem asV {c:Cfg} (hv:VC c) (hc:adD c=0) (ht:1≤c.tasks∧c.tasks≤256) (hw:0≤c.workers∧c.workers≤1000) (hl:l.length≤999999):∃ vs n er,adl c l=some ((vs,n,er,()),())∧abu c l=some ((vs,n,er,()),())∧vs.length≤1000000:=by
 have hb:=aA0 (c:=c) ht (by omega)
 obtain ⟨m,p,r,tr,hm⟩:=avq (l:=l) (p0:=pN c) (r0:=rN c) hv hb hl _ 0 _ _ rfl .z
 obtain ⟨B,Bc⟩:=tr.br hv hb hl
 have hml:=tr.le
 have hpw:p.c.workers≤1000:=by rw [Bc]; exact hw.2
 have hrl:r.tasks.length≤256:=by have:=B.tl2; have:=B.tl3; omega
 refine ⟨r.tasks.map (·.view),(m:Int),if m=l.length then 0 else 6,?_,?_,by rw [List.length_map]; omega⟩
 ·have hg:aaI (adl c l) fun o =>o=((r.tasks.map (·.view),(m:Int),(if m=l.length then 0 else 6),()),()):=by
   unfold adl aki
   rw [hc,aav]
   refine aaI.ite (fun h =>absurd rfl h) fun _ =>?_
   refine (ayu (c:=c) (by omega) (by omega)).bind fun r2 h2 =>?_
   rw [h2]
   refine aaI.bind (P:=fun z =>(m=l.length∧∃ i,z=.inl (i,p,()))∨(m<l.length∧z=.inr ((r.tasks.map (·.view),(m:Int),6,()),()))) (ab8 (fun x =>∃ i:Nat,x.1=(i:Int)∧i≤m∧∃ b,Trc l (pN c) (rN c) i x.2.1 b) (fun x =>((m:Int)-x.1).toNat) (fun self x ⟨i,q1,q2,b,q3⟩ ih =>?_) _ _ ⟨0,rfl,Nat.zero_le _,_,.z⟩ (by show ((m:Int)-0).toNat<_; omega)) fun z hz =>?_
   rotate_left
   ·obtain ⟨x1,x2,u⟩:=x
    obtain rfl:x1=(i:Int):=q1
    have q3:Trc l (pN c) (rN c) i x2 b:=q3
    have e1:wi ((i:Int)+1)=((i+1:Nat):Int):=aa2 (aae (by omega))
    rcases Nat.lt_or_ge i m with hlt | hge
    ·obtain ⟨hi,a',b',k1,k2,k3⟩:=tr.next hlt q3
     refine aaI.ite (fun _ =>aaI.guard (by show 0≤(i:Int)∧(i:Int)<(l.length:Int); omega) fun _ =>?_) fun h =>absurd (show (i:Int)<(l.length:Int) by omega) h
     show aaI ((aaj x2 (aa5 l (i:Int))).bind _) _
     rw [aA4 hi,k1,aav]
     refine aaI.ite (fun h =>nomatch h) fun _ =>?_
     show aaI (self (wi ((i:Int)+1),a',())) _
     rw [e1]
     exact ih _ ⟨i+1,rfl,hlt,b',k3⟩ (by show ((m:Int)-((i+1:Nat):Int)).toNat<((m:Int)-(i:Int)).toNat; omega)
    ·obtain rfl:i=m:=by omega
     obtain ⟨rfl,rfl⟩:=q3.det tr
     rcases hm with hm | ⟨hm,q,q',k1,k2,k3⟩
     ·refine aaI.ite (fun h =>absurd (show (i:Int)<(l.length:Int) from h) (by omega)) fun _ =>.some_ (.inl ⟨hm,_,rfl⟩)
     ·refine aaI.ite (fun _ =>aaI.guard (by show 0≤(i:Int)∧(i:Int)<(l.length:Int); omega) fun _ =>?_) fun h =>absurd (show (i:Int)<(l.length:Int) by omega) h
      show aaI ((aaj x2 (aa5 l (i:Int))).bind _) _
      rw [aA4 hm,k1,aav]
      refine aaI.ite (fun _ =>?_) fun h =>absurd rfl h
      refine (ap0 B (by omega) k2 hpw).bind fun r7 h7 =>.some_ (.inr ⟨hm,?_⟩)
      rw [h7]
   ·rcases hz with ⟨h3,i,rfl⟩ | ⟨h3,rfl⟩
    ·refine (ap0 B (by omega) ab9 hpw).bind fun r9 h9 =>.some_ ?_
     rw [h9,if_pos h3,h3]
    ·refine .some_ ?_
     rw [if_neg (by omega)]
  obtain ⟨x,h1,rfl⟩:=hg
  exact h1
 ·have hg:aaI (abu c l) fun o =>o=((r.tasks.map (·.view),(m:Int),(if m=l.length then 0 else 6),()),()):=by
   unfold abu aj4
   rw [hc,aav]
   refine aaI.ite (fun h =>absurd rfl h) fun _ =>?_
   refine (atM (c:=c) (by omega) (by omega)).bind fun r2 h2 =>?_
   rw [h2]
   refine aaI.bind (P:=fun z =>z.1=(m:Int)∧z.2.1=if m=l.length then 0 else 6) (ab8 (fun x =>x.1=(l.length:Int)∧x.2.1=0∧∃ i:Nat,x.2.2.1=(i:Int)∧i≤m∧∃ a,Trc l (pN c) (rN c) i a x.2.2.2.1) (fun x =>((m:Int)-x.2.2.1).toNat) (fun self x ⟨q0,q00,i,q1,q2,a,q3⟩ ih =>?_) _ _ ⟨rfl,rfl,0,rfl,Nat.zero_le _,_,.z⟩ (by show ((m:Int)-0).toNat<_; omega)) fun z hz =>?_
   rotate_left
   ·obtain ⟨x1,x0,x2,x3,u⟩:=x
    obtain rfl:x2=(i:Int):=q1
    obtain rfl:x1=(l.length:Int):=q0
    obtain rfl:x0=0:=q00
    have q3:Trc l (pN c) (rN c) i a x3:=q3
    have e1:wi ((i:Int)+1)=((i+1:Nat):Int):=aa2 (aae (by omega))
    rcases Nat.lt_or_ge i m with hlt | hge
    ·obtain ⟨hi,a',b',k1,k2,k3⟩:=tr.next hlt q3
     refine aaI.ite (fun _ =>aaI.guard (by show 0≤(i:Int)∧(i:Int)<(l.length:Int); omega) fun _ =>?_) fun h =>absurd (show (i:Int)<(l.length:Int) by omega) h
     show aaI ((aas x3 (aa5 l (i:Int))).bind _) _
     rw [aA4 hi,k2,aav]
     refine aaI.ite (fun h =>nomatch h) fun _ =>?_
     show aaI (self ((l.length:Int),0,wi ((i:Int)+1),b',())) _
     rw [e1]
     exact ih _ ⟨rfl,rfl,i+1,rfl,hlt,a',k3⟩ (by show ((m:Int)-((i+1:Nat):Int)).toNat<((m:Int)-(i:Int)).toNat; omega)
    ·obtain rfl:i=m:=by omega
     obtain ⟨rfl,rfl⟩:=q3.det tr
     rcases hm with hm | ⟨hm,q,q',k1,k2,k3⟩
     ·refine aaI.ite (fun h =>absurd (show (i:Int)<(l.length:Int) from h) (by omega)) fun _ =>.some_ ⟨by show (l.length:Int)=(i:Int); omega,by rw [if_pos hm]⟩
     ·refine aaI.ite (fun _ =>aaI.guard (by show 0≤(i:Int)∧(i:Int)<(l.length:Int); omega) fun _ =>?_) fun h =>absurd (show (i:Int)<(l.length:Int) by omega) h
      show aaI ((aas x3 (aa5 l (i:Int))).bind _) _
      rw [aA4 hm,k3,aav]
      exact aaI.ite (fun _ =>.some_ ⟨rfl,by rw [if_neg (by omega)]⟩) fun h =>absurd rfl h
   obtain ⟨z1,z2,z3,z4,zu⟩:=z
   obtain ⟨hz1,hz2⟩:=hz
   obtain rfl:z1=(m:Int):=hz1
   obtain rfl:z2=if m=l.length then 0 else 6:=hz2
   refine (atM (c:=c) (by omega) (by omega)).bind fun r7 h7 =>?_
   rw [h7]
   refine aaI.bind (P:=fun z =>z.2.1=r) (ab8 (fun x =>∃ i:Nat,x.1=(i:Int)∧i≤m∧∃ a,Trc l (pN c) (rN c) i a x.2.1) (fun x =>((m:Int)-x.1).toNat) (fun self x ⟨i,q1,q2,a,q3⟩ ih =>?_) _ _ ⟨0,rfl,Nat.zero_le _,_,.z⟩ (by show ((m:Int)-0).toNat<_; omega)) fun z hz =>?_
   rotate_left
   ·obtain ⟨x2,x3,u⟩:=x
    obtain rfl:x2=(i:Int):=q1
    have q3:Trc l (pN c) (rN c) i a x3:=q3
    have e1:wi ((i:Int)+1)=((i+1:Nat):Int):=aa2 (aae (by omega))
    rcases Nat.lt_or_ge i m with hlt | hge
    ·obtain ⟨hi,a',b',k1,k2,k3⟩:=tr.next hlt q3
     refine aaI.ite (fun _ =>aaI.guard (by show 0≤(i:Int)∧(i:Int)<(l.length:Int); omega) fun _ =>?_) fun h =>absurd (show (i:Int)<(m:Int) by omega) h
     show aaI ((aas x3 (aa5 l (i:Int))).bind _) _
     rw [aA4 hi,k2,aav]
     show aaI (self (wi ((i:Int)+1),b',())) _
     rw [e1]
     exact ih _ ⟨i+1,rfl,hlt,a',k3⟩ (by show ((m:Int)-((i+1:Nat):Int)).toNat<((m:Int)-(i:Int)).toNat; omega)
    ·obtain rfl:i=m:=by omega
     obtain ⟨rfl,rfl⟩:=q3.det tr
     exact aaI.ite (fun h =>absurd (show (i:Int)<(i:Int) from h) (by omega)) fun _ =>.some_ rfl
   rw [hz]
   refine aaI.bind (P:=fun z =>z.1=r.tasks.map (·.view)) (ab8 (fun x =>∃ i:Nat,x.2.1=(i:Int)∧i≤r.tasks.length∧x.2.2.1=r∧x.1=(r.tasks.take i).map (·.view)) (fun x =>((r.tasks.length:Int)-x.2.1).toNat) (fun self x ⟨i,q2,q3,q4,q5⟩ ih =>?_) _ _ ⟨0,rfl,Nat.zero_le _,rfl,rfl⟩ (by show ((r.tasks.length:Int)-0).toNat<_; omega)) fun z13 hz13 =>.some_ (by rw [hz13])
   obtain ⟨x1,x2,x3,u⟩:=x
   obtain rfl:x2=(i:Int):=q2
   obtain rfl:x3=r:=q4
   obtain rfl:x1=(x3.tasks.take i).map (·.view):=q5
   have e1:wi ((i:Int)+1)=((i+1:Nat):Int):=aa2 (aae (by omega))
   refine aaI.ite (fun h =>?_) fun h =>.some_ ?_
   ·have hi:i<x3.tasks.length:=Int.ofNat_lt.1 h
    have hat:aaa x3.tasks (i:Int)=x3.tasks[i]:=by
     have a1:=ab2 (α:=TkV) (d:=(dfR 61:TkV)) (xs:=x3.tasks) (i:=(i:Int)) ⟨by omega,h⟩
     rw [Int.toNat_natCast,List.getElem?_eq_getElem hi] at a1
     exact (Option.some.inj a1).symm
    refine aaI.guard ⟨by show (0:Int)≤(i:Int); omega,h⟩ fun _ =>aaI.guard (by show ((((x3.tasks.take i).map (·.view)).length+1:Nat):Int)<_; rw [List.length_map,List.length_take]; omega) fun _ =>?_
    show aaI (self ((x3.tasks.take i).map (·.view)++[(aaa x3.tasks (i:Int)).view],wi ((i:Int)+1),x3,())) _
    rw [e1,hat]
    refine ih _ ⟨i+1,rfl,hi,rfl,?_⟩ (by show ((x3.tasks.length:Int)-((i+1:Nat):Int)).toNat<((x3.tasks.length:Int)-(i:Int)).toNat; omega)
    show (x3.tasks.take i).map (·.view)++[x3.tasks[i].view]=(x3.tasks.take (i+1)).map (·.view)
    rw [List.take_succ_eq_append_getElem hi,List.map_append]; rfl
   ·have h:¬ (i:Int)<((x3.tasks.length:Nat):Int):=h
    show (x3.tasks.take i).map (·.view)=x3.tasks.map (·.view)
    rw [List.take_of_length_le (by omega)]
  obtain ⟨x,h1,rfl⟩:=hg
  exact h1
end
section
variable {c:Cfg} {l:List Ev}
theorem aqv {lv np:Int}:∀ {ps:List (List Ins)},abl lv np ps=0→∀ p∈ps,p.length≤32∧p.all (ahI lv np)=true
 | [],_,p,h =>by cases h
 | q::ps,h,p,hm =>by
  unfold abl at h
  split at h
  ·omega
  ·split at h
   ·rename_i h1 h2
    rcases List.mem_cons.1 hm with e | e
    ·subst e; exact ⟨by omega,h2⟩
    ·exact aqv h p e
   ·omega
theorem asz {lv np:Int}:∀ {ss:List Sub},acF lv np ss=0→∀ s∈ss,ajE lv np s=0
 | [],_,s,h =>by cases h
 | q::ss,h,s,hm =>by
  unfold acF at h
  split at h
  ·rename_i h1
   rcases List.mem_cons.1 hm with e | e
   ·subst e; exact h1
   ·exact asz h s e
  ·rename_i h1; exact absurd h h1
theorem aBu (h:adD c=0):VC c∧(1≤c.tasks∧c.tasks≤256)∧(0≤c.workers∧c.workers≤1000):=by
 unfold adD at h
 split at h
 ·omega
 ·rename_i hn
  have hn:=ah6 (by simpa using hn:ahV c=true)
  split at h
  ·omega
  ·rename_i hp
   have hp0:acX c=0:=by omega
   unfold acX at hp0
   split at hp0
   ·omega
   ·unfold adU at h
    split at h
    ·omega
    ·refine ⟨⟨fun k hk =>?_,fun o ho =>?_,by omega⟩,by omega,by omega⟩
     ·have hm:atL [] c.progs k∈c.progs:=alm hk
      obtain ⟨h1,h2⟩:=aqv hp0 _ hm
      refine ⟨by omega,fun a a0 a1 =>?_⟩
      have hi:=List.all_eq_true.1 h2 (acA (atL [] c.progs k) a) (alm (d:=(dfR 3:Ins)) ⟨a0,a1⟩)
      unfold ahI inB at hi
      refine ⟨fun h3 =>?_,fun h3 =>?_⟩
      ·rw [if_neg (by omega),if_pos h3] at hi
       simp only [Bool.and_eq_true,decide_eq_true_eq] at hi
       omega
      ·rw [if_neg (by omega),if_neg (by omega),if_pos h3] at hi
       simp only [Bool.and_eq_true,decide_eq_true_eq] at hi
       omega
     ·have hs:=asz h (acK c.subs o) (alm (d:=(dfR 4:Sub)) ho)
      unfold ajE inB at hs
      split at hs
      ·omega
      ·rename_i h1
       simp only [Bool.not_eq_true',Bool.and_eq_false_iff,decide_eq_false_iff_not,not_or,Classical.not_not,Bool.not_eq_false,Bool.and_eq_true,decide_eq_true_eq] at h1
       omega
theorem arp (hl:l.length≤999999):∃ vs n er,adl c l=some ((vs,n,er,()),())∧abu c l=some ((vs,n,er,()),())∧vs.length≤1000000:=by
 by_cases hc:adD c=0
 ·obtain ⟨h1,h2,h3⟩:=aBu hc
  exact asV h1 hc h2 h3 hl
 ·refine ⟨[],0,adD c,?_,?_,Nat.zero_le _⟩
  ·unfold adl aki
   rw [aav,if_pos hc]
  ·unfold abu aj4
   rw [aav,if_pos hc]
theorem atV {vs:List VwV} {i:Nat} (h:i<vs.length):asg vs (i:Int)=vs[i]∧ash vs (i:Int)=vs[i]:=by
 refine ⟨?_,?_⟩
 ·have a1:=ab2 (α:=VwV) (d:=(dfR 66:VwV)) (xs:=vs) (i:=(i:Int)) ⟨by omega,by omega⟩
  rw [Int.toNat_natCast,List.getElem?_eq_getElem h] at a1
  exact (Option.some.inj a1).symm
 ·have a1:=ab2 (α:=VwV) (d:=(dfR 60:VwV)) (xs:=vs) (i:=(i:Int)) ⟨by omega,by omega⟩
  rw [Int.toNat_natCast,List.getElem?_eq_getElem h] at a1
  exact (Option.some.inj a1).symm
theorem avb (hl:l.length≤999999):aaI (acQ c l) fun o =>o.1.1=true:=by
 obtain ⟨vs,n,er,h1,h2,hv⟩:=arp (c:=c) hl
 unfold acQ adN
 rw [h1,h2,aav,aav,aav,aav]
 refine aaI.ite (fun h =>absurd rfl h) fun _ =>aaI.ite (fun h =>absurd rfl h) fun _ =>aaI.ite (fun h =>absurd rfl h) fun _ =>aaI.ite (fun h =>absurd rfl h) fun _ =>aaI.ite (fun h =>absurd rfl h) fun _ =>?_
 refine aaI.bind (P:=fun z =>∃ y,z=.inl y) (ab8 (fun x =>∃ i:Nat,x.1=(i:Int)∧i≤vs.length) (fun x =>((vs.length:Int)-x.1).toNat) (fun self x ⟨i,q1,q2⟩ ih =>?_) _ _ ⟨0,rfl,Nat.zero_le _⟩ (by show ((vs.length:Int)-0).toNat<_; omega)) fun z ⟨y,hz⟩ =>by
   subst hz; exact .some_ rfl
 obtain ⟨x1,u⟩:=x
 obtain rfl:x1=(i:Int):=q1
 have e1:wi ((i:Int)+1)=((i+1:Nat):Int):=aa2 (aae (by omega))
 refine aaI.ite (fun h =>?_) fun h =>.some_ ⟨_,rfl⟩
 have hi:i<vs.length:=Int.ofNat_lt.1 h
 have hin:0≤(i:Int)∧(i:Int)<(vs.length:Int):=by omega
 refine aaI.guard hin fun _ =>aaI.guard hin fun _ =>?_
 obtain ⟨k1,k2⟩:=atV hi
 dsimp only
 rw [k1,k2]
 refine aaI.ite (fun h =>absurd ⟨rfl,rfl,rfl,rfl,rfl,True.intro⟩ h) fun _ =>?_
 rw [e1]
 exact ih _ ⟨i+1,rfl,hi⟩ (by show ((vs.length:Int)-((i+1:Nat):Int)).toNat<((vs.length:Int)-(i:Int)).toNat; omega)
end
theorem aue {c:Cfg} {s raw:List Int} (hc:DecOk c) (hs:s.length≤600) (hr:raw.length≤400):aaI (amR c s raw) fun o =>o.1.1.length≤100000:=by
 have hw:=hc.w
 have hk:=hc.ok
 have hsn:=hc.sn
 unfold amR
 rw [aAu hk,aav]
 obtain ⟨o2,e2,h2⟩:=arU hk
 rw [e2,aav]
 have a1:wi (40*((c.subs.length:Nat):Int))=40*((c.subs.length:Nat):Int):=aa2 (aae (by omega))
 have a2:wi (2*((s.length:Nat):Int))=2*((s.length:Nat):Int):=aa2 (aae (by omega))
 rw [a1,a2]
 dsimp only
 have hn:=ayt hk
 have h2':asr 200 o2.1.1:=⟨by have:=h2.1; omega,h2.2⟩
 refine .guard (by have:=h2.1; split<;>omega) fun _ =>?_
 refine (amm hn (h2'.take _) (Nat.le_refl 1) (by decide)).bind fun r3 h3 =>?_
 obtain ⟨o4,e4,h4⟩:=aoR (b:=s) (n:=200) (by omega) (by decide)
 rw [e4,aav]
 refine (amm h3.1 (m:=200) (by simpa using h4) (by decide) (by decide)).bind fun r5 h5 =>?_
 refine aaI.bind (P:=fun z =>EngP 100000 z.2.1) (ab8 (fun x =>0≤x.1∧x.1≤60∧EngP (10000+100*x.1.toNat) x.2.1) (fun x =>(60-x.1).toNat) (fun self x ⟨q0,q1,q2⟩ ih =>?_) _ _ ⟨Int.le_refl 0,by show (0:Int)≤60; decide,h5.1.le (by show 1+5*200+5*200≤10000+100*0; decide)⟩ (by show (60-(0:Int)).toNat<_; decide)) fun z hz =>.some_ (by have h1:=hz.st; have h2:=hz.sl; show z.2.1.e.evs.length≤100000; omega)
 refine aaI.ite (fun hlt =>aaI.ite (fun hlt2 =>?_) fun _ =>.some_ (q2.le (by omega))) fun _ =>.some_ (q2.le (by omega))
 have b1:wi (5*x.1)=5*x.1:=aa2 (aae (by omega))
 have b2:wi (c.workers+1)=c.workers+1:=aa2 (aae (by omega))
 have b3:wi (x.1+1)=x.1+1:=aa2 (aae (by omega))
 rw [b1,b2,b3]
 refine (arn (raw:=raw) (at_:=5*x.1) (n:=c.workers+1) (by omega) (by omega) (by omega) (by omega) (by omega)).bind fun r9 h9 =>?_
 have h9':asr 8 r9.1.1:=⟨by have:=h9.1; omega,h9.2⟩
 refine (amm q2 h9' (by omega) (by omega)).bind fun r10 h10 =>?_
 exact ih _ ⟨by show 0≤x.1+1; omega,by show x.1+1≤60; omega,h10.1.le (by show _≤10000+100*(x.1+1).toNat; omega)⟩ (by show (60-(x.1+1)).toNat<(60-x.1).toNat; omega)
theorem awZ:ack=some ((true,()),()):=by kernel_rfl
theorem ajZ {b s raw edits:List Int} (hb:∀ x∈b,0≤x∧x≤255):aaI (acw b s raw edits) fun o =>o.1.1=true:=by
 unfold acw
 refine (ark b [raw,edits] (by show 2≤1000000; omega)).bind fun r1 h1 =>aaI.ite (fun _ =>.some_ rfl) fun h2 =>aaI.ite (fun _ =>.some_ rfl) fun h3 =>?_
 obtain ⟨h4,h5⟩:=h1 (by
  cases hb2:r1.1.1 with
  | true =>rfl
  | false =>rw [hb2] at h2; exact absurd rfl h2)
 have h6:=h5 raw (List.mem_cons_self ..)
 have h7:=h5 edits (List.mem_cons_of_mem _ (List.mem_singleton.2 rfl))
 refine (apC hb (by omega)).bind fun r2 D =>?_
 have hs:s.length≤600:=by have h3:¬ 600<((s.length:Nat):Int):=h3; omega
 refine (aue D hs h6).bind fun r3 h8 =>aaI.guard (by show ((0+r3.1.1.length:Nat):Int)<_; omega) fun _ =>?_
 refine aaI.bind (P:=fun z =>z.1.length≤200000) (ab8 (fun x =>0≤x.2.1∧x.2.1≤8∧(x.1.length:Int)≤100000+x.2.1) (fun x =>(10-x.2.1).toNat) (fun self x ⟨q0,q1,q2⟩ ih =>?_) _ _ ⟨Int.le_refl _,by show (0:Int)≤8; decide,by show ((([]++r3.1.1:List Ev).length:Nat):Int)≤100000+0; rw [List.nil_append]; omega⟩ (by show (10-(0:Int)).toNat<_; omega)) fun z hz =>?_
 rotate_left
 ·obtain ⟨l,x2,u⟩:=x
  have q0:0≤x2:=q0
  have q1:x2≤8:=q1
  have q2:(l.length:Int)≤100000+x2:=q2
  have qe:l.length≤200000:=by omega
  refine aaI.ite (fun _ =>aaI.ite (fun a1 =>aaI.ite (fun a2 =>?_) fun _ =>.some_ qe) fun _ =>.some_ qe) fun _ =>.some_ qe
  have a1:x2<6:=a1
  have a2:1<((l.length:Nat):Int):=a2
  have e1:wi (((l.length:Nat):Int)-1)=(l.length:Int)-1:=aa2 (aae (by omega))
  have e4:wi (x2+1)=x2+1:=aa2 (aae (by omega))
  dsimp only
  rw [e1,e4]
  refine (ael (l:=edits) (by omega) (by omega) (by omega) (by omega) (by omega)).bind fun r7 h9 =>(ael (l:=edits) (by omega) (by omega) (by omega) (by decide) (by decide)).bind fun r8 _ =>(ael (l:=edits) (by omega) (by omega) (by omega) (by decide) (by decide)).bind fun r9 _ =>?_
  generalize r7.1.1=k at *
  have e2:wi (k+1)=k+1:=aa2 (aae (by omega))
  have e3:wi (x2+2)=x2+2:=aa2 (aae (by omega))
  rw [e2,e3]
  have nx:∀ l':List Ev,l'.length≤l.length+1→aaI (self (l',x2+2,())) fun z =>z.1.length≤200000:=fun l' hl =>ih _ ⟨by show 0≤x2+2; omega,by show x2+2≤8; omega,by show (l'.length:Int)≤100000+(x2+2); omega⟩ (by show (10-(x2+2)).toNat<(10-x2).toNat; omega)
  have g1:0≤k∧k≤((l.length:Nat):Int):=by omega
  have g2:0≤k∧k<((l.length:Nat):Int):=by omega
  have g3:0≤k+1∧k+1≤((l.length:Nat):Int):=by omega
  have g4:0≤k+1∧k+1<((l.length:Nat):Int):=by omega
  have g5:k≤k+1:=by omega
  have ln:∀ v:Ev,(l.set k.toNat v).length≤l.length+1:=fun v =>by rw [List.length_set]; omega
  refine aaI.ite (fun _ =>?_) fun _ =>aaI.ite (fun _ =>?_) fun _ =>aaI.ite (fun _ =>?_) fun _ =>aaI.ite (fun _ =>?_) fun _ =>aaI.ite (fun _ =>?_) fun _ =>aaI.ite (fun _ =>?_) fun _ =>aaI.ite (fun _ =>?_) fun _ =>?_
  ·exact aaI.guard g1 fun _ =>aaI.guard rfl fun _ =>aaI.guard g3 fun _ =>aaI.guard g5 fun _ =>aaI.guard (by rw [List.length_take,List.length_drop]; omega) fun _ =>nx _ (by rw [List.length_append,List.length_take,List.length_drop]; omega)
  ·simp only [g1,g2,and_self,if_true,ag2,acL]
   refine aaI.guard (by rw [List.length_take,List.length_nil]; omega) fun _ =>aaI.guard (by rw [List.length_append,List.length_take,List.length_nil,List.length_singleton]; omega) fun _ =>aaI.guard (by rw [List.length_append,List.length_append,List.length_take,List.length_nil,List.length_singleton,List.length_drop]; omega) fun _ =>nx _ (by rw [List.length_append,List.length_append,List.length_append,List.length_take,List.length_nil,List.length_singleton,List.length_drop]; omega)
  ·exact aaI.guard g4 fun _ =>aaI.guard g2 fun _ =>aaI.guard g2 fun _ =>aaI.guard (by rw [List.length_set]; exact g4) fun _ =>nx _ (by rw [List.length_set]; exact ln _)
  all_goals exact aaI.guard g2 fun _ =>aaI.guard g2 fun _ =>nx _ (ln _)
 ·rw [awZ,aav]
  refine aaI.ite (fun _ =>?_) fun h =>absurd rfl h
  exact (avb (by omega)).bind fun r14 h14 =>.some_ h14
end
section
open Go.ChangeShapes Go.WideShapes Go.RowKit Go.Deep
theorem asE {w:World} {a:Addr} {v:Value} (h:w.cell? a=some v):a=⟨a.block,a.off,none⟩∧a.block<w.heap.size:=by
 unfold World.cell? at h
 split at h
 ·rename_i hb
  split at h
  ·cases h
  ·rename_i hs
   refine ⟨?_,?_⟩
   ·cases a with
    | mk b o s =>cases s with
     | none =>rfl
     | some k =>simp at hs
   ·rcases Nat.lt_or_ge a.block w.heap.size with h1 | h1
    ·exact h1
    ·rw [Array.getElem?_eq_none h1] at hb; cases hb
 ·cases h
theorem aw2 (b o n:Nat):(⟨b,o,none⟩:Addr).add n=⟨b,o+n,none⟩:=by
 unfold Addr.add; split
 ·rename_i h; simp [h]
 ·rfl
theorem ahY {α:Type} (Y:Nat→Option α):∀ len,(∀ i,i<len→∃ z,Y i=some z)→((List.range len).filterMap Y).length=len∧∀ i,i<len→((List.range len).filterMap Y)[i]?=Y i
 | 0,_ =>by simp
 | k+1,h =>by
  obtain ⟨z,hz⟩:=h k (by omega)
  have hk:=ahY Y k (fun i hi =>h i (by omega))
  have e1:List.filterMap Y [k]=[z]:=by simp [hz]
  rw [List.range_succ,List.filterMap_append,e1]
  refine ⟨by simp [hk.1],fun i hi =>?_⟩
  rcases Nat.lt_or_ge i k with h1 | h1
  ·rw [List.getElem?_append_left (by rw [hk.1]; exact h1)]; exact hk.2 i h1
  ·have e:i=k:=by omega
   subst e
   rw [List.getElem?_append_right (by rw [hk.1]; omega),hk.1,hz]; simp
section
variable {H:Type} {enc:TypeId×Value→H} {P:Program} {w:World} {base:Nat} {spare:Nat→Bool} {held:Bool}
theorem asG {α:Type} {en:α→List Value} {sz:Nat} {Q:α→Prop} {t e:TypeId} {fuel:Nat} {cs:List Value} {x:DataW H×List MemPlace} (ht:P.underlying t=some (.slice e)) (hC:P.cellsOf e=sz) (hsz:0<sz)
  (hel:∀ n cs' d,DataW.trod enc P w base spare held n e cs'=some d→cs'.length=sz→∃ y:α,Q y∧cs'=en y) (h:DataW.trod enc P w base spare held fuel t cs=some x) :
  ∃ A cap xs,cs=[.slice A xs.length cap]∧Sl en sz w w.heap.size A xs∧(∀ y∈xs,Q y)∧xs.length≤cap:=by
 rcases open_slice ht h with ⟨h0,_⟩ | ⟨a,len,cap,m,n,D,Pl,hcs,hb,hl,hm,hmm,hx,hi⟩
 ·exact ⟨none,0,[],h0,Sl.nil,by simp,Nat.le_refl _⟩
 ·have hm0:len≤m:=by rw [hmm]; split<;>omega
  have hY:∀ i,∃ y:Option α,i<len→∃ z,y=some z∧Q z∧∀ j u,(en z)[j]?=some u→w.cell? (a.add (i*sz+j))=some u:=by
   intro i
   by_cases hil:i<len
   ·obtain ⟨cs',hc,ht'⟩:=hi i (by omega)
    rw [hC] at hc
    obtain ⟨_,hcl,hat⟩:=World.cells?_some hc
    obtain ⟨y,hq,rfl⟩:=hel n cs' _ ht' hcl
    refine ⟨some y,fun _ =>⟨y,rfl,hq,fun j u hu =>?_⟩⟩
    have hj:j<sz:=by
     rcases Nat.lt_or_ge j sz with h1 | h1
     ·exact h1
     ·rw [List.getElem?_eq_none (by omega)] at hu; cases hu
    rw [← Go.Deep.add_add,hat j hj,hu]
   ·exact ⟨none,fun h =>absurd h hil⟩
  obtain ⟨Y,hY⟩:=Classical.axiomOfChoice hY
  have hlen:=ahY Y len (fun i hi =>(hY i hi).imp fun z h =>h.1)
  refine ⟨some a,cap,(List.range len).filterMap Y,by rw [hcs,hlen.1],⟨by rw [hlen.1]; simp only [maxLen] at hm; omega,fun hne =>?_⟩,fun y hy =>?_,by rw [hlen.1]; exact hl⟩
  ·have hpos:0<len:=by
    rw [← hlen.1]; exact List.length_pos_iff.2 hne
   obtain ⟨cs',hc,_⟩:=hi 0 (by omega)
   rw [hC] at hc
   obtain ⟨_,hcl,hat⟩:=World.cells?_some hc
   have h00:=hat 0 hsz
   rw [List.getElem?_eq_getElem (by omega)] at h00
   have hs:=asE h00
   have ea:(a.add (0*sz)).add 0=a:=by simp [Addr.add]
   rw [ea] at hs
   refine ⟨a.block,a.off,by rw [← hs.1],hs.2,fun i z hz j u hu =>?_⟩
   have hil:i<len:=by
    rcases Nat.lt_or_ge i len with h1 | h1
    ·exact h1
    ·rw [List.getElem?_eq_none (by rw [hlen.1]; exact h1)] at hz; cases hz
   obtain ⟨z',hz',_,hcell⟩:=hY i hil
   rw [hlen.2 i hil,hz'] at hz
   injection hz with hz
   subst hz
   have:=hcell j u hu
   rw [hs.1,aw2] at this
   rw [Nat.add_assoc]
   exact this
  ·obtain ⟨i,hi1,hi2⟩:=List.mem_filterMap.1 hy
   obtain ⟨z,hz,hq,_⟩:=hY i (List.mem_range.1 hi1)
   rw [hz] at hi2
   injection hi2 with hi2
   rw [← hi2]; exact hq
end
end
section
open Go.ChangeShapes Go.WideShapes Go.RowKit Go.Deep
set_option maxRecDepth 100000
theorem awX:Tryz.prog.cellsOf 3=1:=by kernel_rfl
theorem auQ:Tryz.prog.cellsOf 5=1:=by kernel_rfl
theorem azE {z:Int} (h:(Lit.int .i64 z).wf=true):-9223372036854775808≤z∧z≤9223372036854775807:=by
 simp [Lit.wf,IntKind.min,IntKind.max,IntKind.bits,IntKind.signed] at h
 omega
section
variable {H:Type} {enc:TypeId×Value→H} {w:World} {base:Nat} {spare:Nat→Bool} {held:Bool}
theorem awr (n:Nat) (cs:List Value) (d:DataW H×List MemPlace) (h:DataW.trod enc Tryz.prog w base spare held n 3 cs=some d) (_:cs.length=1):∃ y:Int,(-9223372036854775808≤y∧y≤9223372036854775807)∧cs=ad8 SR1.kt 1 y:=by
 obtain ⟨z,hz,_,hw⟩:=DataW.trod_int Tryz.underlying3 h
 exact ⟨z,azE hw,hz⟩
theorem auV (n:Nat) (cs:List Value) (d:DataW H×List MemPlace) (h:DataW.trod enc Tryz.prog w base spare held n 5 cs=some d) (_:cs.length=1):∃ y:Int,(0≤y∧y≤255)∧cs=ad8 SR1.kt 17 y:=by
 obtain ⟨z,hz,_,hw⟩:=DataW.trod_int Tryz.underlying5 h
 simp [Lit.wf,IntKind.min,IntKind.max,IntKind.bits,IntKind.signed] at hw
 exact ⟨z,by omega,hz⟩
theorem anu {t e:TypeId} {r:Reach} {b0:Nat} {v:Value} {A:Option Addr} {n cap:Nat} (ht:Tryz.prog.underlying t=some (.slice e)) (hv:Value.okWide Tryz.prog w r b0 t v) (h1:v.cells.toList=[.slice A n cap]):v=.slice A n cap:=by
 obtain ⟨a,len,c,rfl⟩:=okWide_slice ht hv
 simp [Value.cells] at h1
 rw [h1.1,h1.2.1,h1.2.2]
theorem azU {c:Nat} {l:List (SR1.T c)} {v:Value} {A:Option Addr} {cap:Nat} {L:List aai} (hz:0<SR1.kt.sz c) (henc:∀ x,(ad8 SR1.kt c x).length=SR1.kt.sz c) (hv:v=.slice A l.length cap) (hS:Sl (ad8 SR1.kt c) (SR1.kt.sz c) w w.heap.size A l) (hc:l.length≤cap) (s:Sat w.heap.size w L):Sat w.heap.size w (pcS SR1.kt (.ro c l) v::L) :=
 abE (fun h hr =>⟨0,A,cap,hv,hr⟩) (azM hz henc hS hc s)
theorem aq0 {v:Value} {d:DataW H} {p:List MemPlace} {r:Reach} {b0:Nat} (hv:Value.okWide Tryz.prog w r b0 22 v) (h:DataW.Trod enc Tryz.prog w base spare held 22 v d p):∃ l:List Int,(∀ x∈l,0≤x∧x≤255)∧∀ {L},Sat w.heap.size w L→Sat w.heap.size w (pcS SR1.kt (.ro 17 l) v::L):=by
 obtain ⟨fuel,hf⟩:=h
 obtain ⟨A,cap,xs,h1,h2,h3,h4⟩:=asG Tryz.underlying22 auQ (by decide) auV hf
 exact ⟨xs,h3,fun s =>azU (c:=17) (by decide) (fun _ =>rfl) (anu Tryz.underlying22 hv h1) h2 h4 s⟩
theorem at8 {v:Value} {d:DataW H} {p:List MemPlace} {r:Reach} {b0:Nat} (hv:Value.okWide Tryz.prog w r b0 23 v) (h:DataW.Trod enc Tryz.prog w base spare held 23 v d p):∃ l:List Int,(∀ x∈l,-9223372036854775808≤x∧x≤9223372036854775807)∧∀ {L},Sat w.heap.size w L→Sat w.heap.size w (pcS SR1.kt (.ro 1 l) v::L):=by
 obtain ⟨fuel,hf⟩:=h
 obtain ⟨A,cap,xs,h1,h2,h3,h4⟩:=asG Tryz.underlying23 awX (by decide) awr hf
 exact ⟨xs,h3,fun s =>azU (c:=1) (by decide) (fun _ =>rfl) (anu Tryz.underlying23 hv h1) h2 h4 s⟩
end
theorem at1 [Tb] {f:FuncId} {ps:List Pk} {spec:aq9 SR1 ps→Option (aq8 SR1 [.sh .b]×anm SR1 ps)} {P:Program} (hf:Nat.blt f agb=true) (h:aw4 SR1 P f ps [.sh .b] spec) {x:aq9 SR1 ps} {o:anm SR1 ps} (hx:spec x=some ((true,()),o)) {vs:List Value} {w:World} (hg:aBt w.heap.size w) (s:Sat w.heap.size w (amb SR1 ps x vs++[fun _ =>True])) :
  Calls P f vs.toArray w fun e w' =>e=.returned (.bool true)∧Below w.heap.size w w':=by
 have h0:=h x _ hx w.heap.size w hg vs (fun _ =>True) w ⟨Below.refl _ _,Nat.le_refl _,s⟩
 rw [aeo hf] at h0
 refine h0.mono fun e w' ⟨us,he,hb,_,s'⟩ =>?_
 rcases us with _ | ⟨u,_ | ⟨u2,us⟩⟩
 ·exact aa9 s'
 ·have s2:Sat w.heap.size w' (ajX (u=.bool true)::_):=abE (aka (f:=.b true) (fun _ h =>h) fun _ _ h =>h) s'
  obtain ⟨_,_,_,_,_,_,h1,_⟩:=s2
  subst h1
  exact ⟨he,hb⟩
 ·exact aa9 s'.drop
end
end Go.Proofs.YtkmkhldmflebkaaGreat
