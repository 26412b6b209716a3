/- The program's machines do what was said plainly,2: probing. What a step of the program's machines leaves of the environment: at most one access,few events,records of the same number. The program's machines do what was said plainly,3: the machines that run others inside. The program's machines do what was said plainly: a sweep. The program's machines do what was said plainly,4: a drain. The program's machines do what was said plainly,5: running a task: parts. The program's machines do what was said plainly,6: running a task: lines. The program's machines do what was said plainly,7: running a task. The program's machines do what was said plainly,8: workers. -/
import Derived.Test.YtidhehdanppcoaaGreatCaal
set_option linter.all false
namespace Go.Proofs.YtidhehdanppcoaaGreat
section
open Go Go.RowKit
set_option maxRecDepth 100000
section
variable {e:EnvP}
theorem azf {x:ProbeV} {n:Int} (hn:1≤n):aeh x n=some ((decide (n≤akj x.worker n x.start x.next),()),({ x with next:=akj x.worker n x.start x.next },())):=by
 unfold aeh akj
 have h0:n≠0:=by omega
 by_cases h:x.next<n
 ·by_cases h2:Int.tmod (wi (x.start+x.next)) n=x.worker
  ·simp only [h,h0,h2,ne_eq,not_false_eq_true,if_true,decide_true,Option.bind_some,and_self]
  ·simp only [h,h0,h2,ne_eq,not_false_eq_true,if_true,decide_false,Option.bind_some,and_false,if_false,Bool.false_eq_true]
 ·simp only [h,false_and,if_false,Option.bind_some,Bool.false_eq_true]
theorem avp (h:1≤e.c.workers):1≤abt e∧abt e≤16:=by
 unfold abt
 split<;>omega
theorem ays {a n:Int} (hn:1≤n) (ha:0≤a):0≤Int.tmod a n∧Int.tmod a n<n:=by
 rw [Int.tmod_eq_emod_of_nonneg ha]
 exact ⟨Int.emod_nonneg _ (by omega),Int.emod_lt_of_pos _ (by omega)⟩
theorem ay9 {w s:Int} {n:Int} (hn:1≤n∧n≤16) (hs:0≤s∧s≤100) (st:Int) (hst:arS st n=s) (x:ProbeV) (hx:x.start=st) (F:(Int×Int×Int×ProbeV×Unit→Option (Int×Int×Int×ProbeV×Unit))→Int×Int×Int×ProbeV×Unit→Option (Int×Int×Int×ProbeV×Unit))
  (hF:∀ self a b i,0≤i→i≤16→F self (a,b,i,x,())=if i<n then (if Int.tmod (wi (s+i)) n≠w∧b<ar4 (x.bm.at (Int.tmod (wi (s+i)) n)) then self (Int.tmod (wi (s+i)) n,ar4 (x.bm.at (Int.tmod (wi (s+i)) n)),wi (i+1),x,()) else self (a,b,wi (i+1),x,())) else some (a,b,i,x,())) :
  ∀ (k fuel:Nat) (i a b:Int),0≤i→(i+(k:Int)=n)→k<fuel→lpF F fuel (a,b,i,x,())=some ((axS w n s x.bm k i (a,b)).1,(axS w n s x.bm k i (a,b)).2,n,x,()):=by
 intro k
 induction k with
 | zero =>
  intro fuel i a b h0 hi hf
  obtain ⟨fuel,rfl⟩:∃ f,fuel=f+1:=⟨fuel-1,by omega⟩
  show F (lpF F fuel) _=_
  rw [hF _ _ _ _ h0 (by omega),if_neg (by omega)]
  have:i=n:=by omega
  subst this
  rfl
 | succ k ih =>
  intro fuel i a b h0 hi hf
  obtain ⟨fuel,rfl⟩:∃ f,fuel=f+1:=⟨fuel-1,by omega⟩
  show F (lpF F fuel) _=_
  rw [hF _ _ _ _ h0 (by omega),if_pos (by omega)]
  have e1:wi (i+1)=i+1:=aaM (aas (by omega))
  rw [e1]
  unfold axS
  split
  ·exact ih fuel (i+1) _ _ (by omega) (by omega) (by omega)
  ·exact ih fuel (i+1) _ _ (by omega) (by omega) (by omega)
theorem aaV.bind {σ X α:Type} {og:X→OutV} {mk:σ→X} {r:Rs σ×EnvP} {A:Option α} {f:α→Option ((Bool×Unit)×(X×EnvP×Unit))} {z:α} (h:A=some z) (h2:aaV og mk (f z) r):aaV og mk (A.bind f) r:=by rw [h]; exact h2
theorem aAP {α β:Type} {A:Option α} {f:α→Option β} {z:α} (h:A=some z):A.bind f=f z:=by rw [h]; rfl
theorem aaV.ite' {σ X:Type} {og:X→OutV} {mk:σ→X} {a b:Option ((Bool×Unit)×(X×EnvP×Unit))} {r s:Rs σ×EnvP} {c:Prop} [Decidable c] (h1:c→aaV og mk b r) (h2:¬ c→aaV og mk a s):aaV og mk (if (!decide c)=true then a else b) (if c then r else s):=by
 by_cases h:c
 ·rw [if_pos h,decide_eq_true h]; exact h1 h
 ·rw [if_neg h,decide_eq_false h]; exact h2 h
def ann (n:Int):ProbeS→Prop
 | .new =>True
 | .run s i _ =>(0≤s∧s<n)∧0≤i∧i≤n
theorem azE {a n:Int} (hn:1≤n∧n≤1000000):0≤arS a n∧arS a n<n:=by
 unfold arS
 rw [if_neg (by omega)]
 have h1:-n<Int.tmod a n:=Int.lt_tmod_of_pos a (b:=n) (by omega)
 have h2:Int.tmod a n<n:=Int.tmod_lt_of_pos a (b:=n) (by omega)
 split
 ·rw [aaM (aas (by omega))]; omega
 ·omega
theorem aFI {s n:Int} (h:0≤s∧s<n):arS s n=s:=by
 unfold arS
 rw [if_neg (by omega)]
 have e1:Int.tmod s n=s:=Int.tmod_eq_of_lt h.1 h.2
 rw [e1,if_neg (by omega)]
theorem arA {w n s i:Int} (hi:0≤i∧i≤n) (hn:n≤16):i≤akj w n s i∧akj w n s i≤n:=by
 unfold akj
 split
 ·rw [aaM (aas (by omega))]; omega
 ·omega
theorem aKH {v:Int} (h:0≤v∧v<16):v=15∨v=14∨v=13∨v=12∨v=11∨v=10∨v=9∨v=8∨v=7∨v=6∨v=5∨v=4∨v=3∨v=2∨v=1∨v=0:=by omega
theorem atu {w s i:Int} {bm:B16} (hw:1≤e.c.workers) (h:ann (abt e) (.run s i bm)):aaV ProbeV.o (alw w) (abl (alw w (.run s i bm)) e) (af5 w e s i bm):=by
 obtain ⟨hs,hi⟩:=h
 have hn:=avp hw
 have hM:(if 16<e.c.workers then 16 else e.c.workers)=abt e:=rfl
 have hp:=arA (w:=w) (s:=s) hi hn.2
 unfold abl af5
 simp only [alw,aaw,o0,hM,Option.bind_some,Bool.false_eq_true,if_false,Bool.not_true,azf hn.1,decide_eq_true_eq,abg]
 refine aaV.ite (fun _ =>⟨_,rfl,rfl⟩) fun hlt =>?_
 generalize hj:akj w (abt e) s i=j at hp hlt ⊢
 have hsj:wi (s+j)=s+j:=aaM (aas (by omega))
 have hv:=ays (a:=s+j) hn.1 (by omega)
 have hj1:wi (j+1)=j+1:=aaM (aas (by omega))
 rw [if_pos (show abt e≠0 by omega),hsj,hj1]
 generalize hvv:Int.tmod (s+j) (abt e)=v at hv ⊢
 have hp2:=arA (w:=w) (s:=s) (i:=j+1) ⟨by omega,by omega⟩ hn.2
 simp only [aeD,abB,Option.bind_some]
 refine aaV.bind (z:=(⟨⟨false,0,0⟩,w,true,s,j,bm.put v (e.m.gt (aaF e.l v))⟩,{ e with m:=e.m.pt 1 (aaF e.l v) (e.m.gt (aaF e.l v)) },())) ?_ ?_
 ·rcases aKH (v:=v) (by omega) with h | h | h | h | h | h | h | h | h | h | h | h | h | h | h | h<;>subst h<;>rfl
 simp only [hj1,azf hn.1,Option.bind_some]
 generalize hj2:akj w (abt e) s (j+1)=j2 at hp2 ⊢
 refine aaV.ite' (c:=abt e≤j2) (fun h2 =>?_) (fun h2 =>?_)
 ·simp only [if_true,if_pos (show 0≤abt e∧abt e≤((16:Nat):Int) by omega)]
  have ht:(((abt e).toNat:Nat):Int)=abt e:=by omega
  have hm:arS s (abt e)=s:=aFI hs
  refine aaV.bind (ay9 (w:=w) (s:=s) (n:=abt e) hn ⟨hs.1,by omega⟩ s hm _ rfl _ (fun self a b i h0 h16 =>?_) (abt e).toNat _ 0 (-1) (-1) (Int.le_refl 0) (by omega) (by omega)) ?_
  ·simp only [ht,amR,hm,Option.bind_some]
   refine ite_congr rfl (fun hlt =>?_) fun _ =>rfl
   have hsi:wi (s+i)=s+i:=aaM (aas (by omega))
   have hv2:=ays (a:=s+i) hn.1 (by omega)
   rw [if_pos (show abt e≠0 by omega),hsi]
   generalize Int.tmod (s+i) (abt e)=u at hv2 ⊢
   rw [if_pos hv2.2]
   refine (aAP (z:=(ar4 ((bm.put v (e.m.gt (aaF e.l v))).at u),⟨⟨false,0,0⟩,w,true,s,j2,bm.put v (e.m.gt (aaF e.l v))⟩,())) ?_).trans ?_
   ·rcases aKH (v:=u) (by omega) with h | h | h | h | h | h | h | h | h | h | h | h | h | h | h | h<;>subst h<;>exact aAP awI
   ·by_cases c1:u≠w
    ·by_cases c2:b<ar4 ((bm.put v (e.m.gt (aaF e.l v))).at u)
     ·rw [if_pos c1,if_pos c2,if_pos ⟨c1,c2⟩]
     ·rw [if_pos c1,if_neg c2,if_neg (fun h =>c2 h.2)]
    ·rw [if_neg c1,if_neg (fun h =>c1 h.1)]
  ·have hc:ap4 w (abt e) s (bm.put v (e.m.gt (aaF e.l v)))=axS w (abt e) s (bm.put v (e.m.gt (aaF e.l v))) (abt e).toNat 0 (-1,-1):=by unfold ap4; rw [hm]
   rw [hc]
   simp only [aa0,Option.bind_some]
   exact aaV.ite (fun _ =>⟨_,rfl,rfl⟩) fun _ =>⟨_,rfl,rfl⟩
 ·rfl
theorem ay4 {w:Int} (hw:1≤e.c.workers) (s:ProbeS) (h:ann (abt e) s):aaV ProbeV.o (alw w) (abl (alw w s) e) (aiL w e s):=by
 cases s with
 | run s i bm =>exact atu hw h
 | new =>
  have hn:=avp hw
  have hd:0≤at8 e.k (abt e)∧at8 e.k (abt e)<abt e:=azE ⟨hn.1,by omega⟩
  have h1:=atu (w:=w) (s:=at8 e.k (abt e)) (i:=0) (bm:=aI6) hw ⟨hd,Int.le_refl 0,by omega⟩
  have hM:(if 16<e.c.workers then 16 else e.c.workers)=abt e:=rfl
  have e1:abl (alw w .new) e=abl (alw w (.run (at8 e.k (abt e)) 0 aI6)) e:=by
   unfold abl
   simp only [alw,aaw,o0,hM,Option.bind_some,Bool.false_eq_true,if_false,Bool.not_true,Bool.not_false,if_true,aCh]
  rw [e1]
  exact h1
theorem aB5 {w:Int} (hw:1≤e.c.workers) {s s':ProbeS} {e':EnvP} (h:ann (abt e) s) (hs:aiL w e s=(.go s',e')):ann (abt e) s':=by
 have hn:=avp hw
 have key:∀ s i bm,(0≤s∧s<abt e)→(0≤i∧i≤abt e)→af5 w e s i bm=(.go s',e')→ann (abt e) s':=fun s i bm hs0 hi hg =>by
  have hp:=arA (w:=w) (s:=s) hi hn.2
  unfold af5 at hg
  generalize akj w (abt e) s i=j at hp hg
  split at hg
  ·cases hg
  ·rename_i hlt
   have hj1:wi (j+1)=j+1:=aaM (aas (by omega))
   have hp2:=arA (w:=w) (s:=s) (i:=j+1) ⟨by omega,by omega⟩ hn.2
   simp only [hj1] at hg
   split at hg
   ·split at hg<;>cases hg
   ·cases hg
    exact ⟨hs0,by omega,by omega⟩
 cases s with
 | run s i bm =>exact key s i bm h.1 h.2 hs
 | new =>exact key _ 0 _ (azE ⟨hn.1,by omega⟩) ⟨Int.le_refl 0,by omega⟩ hs
end
inductive One (m:MemV):MemV→Prop where
 | no:One m m
 | yes (k a v:Int) (h:0≤a∧a<(m.cells.length:Int)) (hk:k<2→v=ags m.cells a):One m ⟨m.cells.set a.toNat v,⟨k,a,ags m.cells a,v⟩,wi (m.count+1)⟩
structure Stp (j:Nat) (e e':EnvP):Prop where
 c:e'.c=e.c
 l:e'.l=e.l
 k:e'.k=e.k
 rl:e'.recs.length=e.recs.length
 m:One e.m e'.m
 ev:e'.evs.length≤e.evs.length+j
 kd:∀ K,(∀ r∈e.recs,r.kids.length≤K)→∀ r∈e'.recs,r.kids.length≤K+1
section
variable {j:Nat} {e e':EnvP}
theorem Stp.refl:Stp 0 e e:=⟨rfl,rfl,rfl,rfl,.no,Nat.le_refl _,fun K h r hr =>Nat.le_succ_of_le (h r hr)⟩
theorem Stp.le {i:Nat} (h:Stp j e e') (hi:j≤i):Stp i e e':=⟨h.c,h.l,h.k,h.rl,h.m,Nat.le_trans h.ev (Nat.add_le_add_left hi _),h.kd⟩
theorem azy {m:MemV} {k a v:Int} (hk:k<2→0≤a→a<(m.cells.length:Int)→v=ags m.cells a):One m (m.pt k a v):=by
 unfold MemV.pt
 by_cases h:0≤a∧a<(m.cells.length:Int)
 ·rw [if_pos h]; exact .yes k a v h fun hk' =>hk hk' h.1 h.2
 ·rw [if_neg h]; exact .no
theorem Stp.pt {k a v:Int} (hk:2≤k):Stp 0 e (e.pt k a v):=⟨rfl,rfl,rfl,rfl,azy fun h =>absurd h (by omega),Nat.le_refl _,fun K h r hr =>Nat.le_succ_of_le (h r hr)⟩
theorem Stp.lk {a:Int}:Stp 0 e (e.lk a):=⟨rfl,rfl,rfl,rfl,azy fun _ h1 h2 =>by unfold MemV.gt; rw [if_pos ⟨h1,h2⟩],Nat.le_refl _,fun K h r hr =>Nat.le_succ_of_le (h r hr)⟩
theorem Stp.cas {a o v:Int}:Stp 0 e (e.cas a o v):=⟨rfl,rfl,rfl,rfl,azy fun h =>absurd h (by omega),Nat.le_refl _,fun K h r hr =>Nat.le_succ_of_le (h r hr)⟩
theorem Stp.em {k w t o l:Int} (h:Stp j e e'):Stp (j+1) e (e'.em k w t o l):=⟨h.c,h.l,h.k,h.rl,h.m,by
 show (e'.evs++[_]).length≤_
 rw [List.length_append,List.length_singleton]
 have:=h.ev
 omega,h.kd⟩
theorem Stp.pr {t:Int} {r:RecP} (h:Stp j e e') (hr:∀ K,(∀ r∈e.recs,r.kids.length≤K)→r.kids.length≤K+1):Stp j e (e'.pr t r):=⟨h.c,h.l,h.k,(by show (e'.recs.set _ _).length=_; rw [List.length_set]; exact h.rl),h.m,h.ev,fun K hK x hx =>by
 rcases List.mem_or_eq_of_mem_set hx with hx | rfl
 ·exact h.kd K hK x hx
 ·exact hr K hK⟩
theorem aoq {q:QV} {v:Int} (s:OPushS):Stp 0 e (aei q v e s).2:=by
 cases s<;>unfold aei<;>first | exact .lk | exact .pt (by decide)
theorem azr {q:QV} (s:OPopS):Stp 0 e (akM q e s).2:=by
 cases s<;>unfold akM<;>first | exact .lk | exact .pt (by decide) | exact .cas
theorem awd {q:QV} (s:StealS):Stp 0 e (agD q e s).2:=by
 cases s<;>unfold agD<;>first | exact .lk | exact .pt (by decide) | exact .cas
theorem awo {a b:Int} {q:QV} (s:ResetS):Stp 0 e (aeB a b q e s).2:=by
 cases s<;>unfold aeB<;>first | exact .lk | exact .pt (by decide)
theorem aHf {a b:Int}:Stp 0 e (aBN a b e):=.pt (by decide)
theorem aoC:Stp 0 e (abN e):=.pt (by decide)
theorem aqG {t v:Int} (s:PublishS):Stp 0 e (aeS t v e s).2:=by
 unfold aeS
 split
 ·exact .refl
 ·cases s<;>exact .pt (by decide)
theorem arw {t:Int} (h:0≤t∧t<(e.recs.length:Int)) (K:Nat) (hK:∀ r∈e.recs,r.kids.length≤K):(e.rc t).kids.length≤K:=by
 refine hK _ ?_
 have h1:=ae0 (d:=(dfR 26:RecP)) (xs:=e.recs) h
 exact List.mem_of_getElem? h1
theorem ame {w t:Int} (hr:acN t e=true→0≤t∧t<(e.recs.length:Int)):Stp 1 e (aeb w t e):=by
 unfold aeb
 split
 ·rename_i h
  split
  ·exact Stp.cas.em
  ·refine (Stp.cas.pr fun K hK =>?_).em
   exact Nat.le_succ_of_le (arw (hr h) K hK)
 ·exact Stp.cas.em
theorem avr {o:Int}:Stp 0 e (aqq o e):=.cas
theorem avy:Stp 0 e (ar7 e):=.pt (by decide)
theorem alY {d t:Int} (s:InsertS):Stp 0 e (abS d t e s).2:=by
 cases s<;>unfold abS<;>first | exact .lk | exact .pt (by decide)
theorem atm {w:Int} (s:RemoveS):Stp 1 e (acl w e s).2:=by
 cases s<;>unfold acl<;>first | exact Stp.lk.le (by decide) | exact Stp.le (.pt (by decide)) (by decide) | exact Stp.em (.pt (by decide))
theorem aBJ {w:Int} (s:SleepS):Stp 1 e (ac5 w e s).2:=by
 cases s<;>unfold ac5<;>repeat' split
 all_goals first | exact Stp.lk.le (by decide) | exact Stp.le (.pt (by decide)) (by decide) | exact Stp.lk.em
theorem aoJ [Tb] {w v:Int} (s:WakeS):Stp 1 e (adN w v e s).2:=by
 cases s<;>unfold adN<;>first | exact Stp.lk.le (by decide) | exact Stp.le (.pt (by decide)) (by decide) | exact Stp.em (.pt (by decide))
theorem awv {w t v:Int} (s:RaiseS):Stp 1 e (aea w t v e s).2:=by
 unfold aea
 split
 ·exact Stp.refl.le (by decide)
 ·cases s
  ·exact Stp.lk.le (by decide)
  ·simp only
   split
   ·exact Stp.cas.em
   ·exact Stp.cas.le (by decide)
theorem aww {w:Int} (s:ProbeS):Stp 0 e (aiL w e s).2:=by
 have key:∀ s i bm,Stp 0 e (af5 w e s i bm).2:=fun s i bm =>by
  unfold af5
  split
  ·exact .refl
  ·simp only
   split<;>exact .lk
 cases s
 ·exact key _ _ _
 ·exact key _ _ _
theorem agl {w v x:Int} (s:LPushS):Stp 0 e (abw w v x e s).2:=by
 cases s with
 | new =>
  have h:=aoq (e:=e) (q:=aat e.l w v) (v:=x) .l1
  revert h
  simp only [abw]
  rcases aei (aat e.l w v) x e .l1 with ⟨r | ⟨c,y⟩,e'⟩<;>intro h<;>exact h
 | push s =>
  have h:=aoq (e:=e) (q:=aat e.l w v) (v:=x) s
  revert h
  simp only [abw]
  rcases aei (aat e.l w v) x e s with ⟨r | ⟨c,y⟩,e'⟩<;>intro h<;>exact h
 | set =>exact aHf
theorem aFN {w:Int} (s:LPopS):Stp 0 e (afF w e s).2:=by
 cases s with
 | l1 v =>exact .lk
 | l2 v s =>
  have h:=azr (e:=e) (q:=aat e.l w v) s
  revert h
  simp only [afF]
  rcases akM (aat e.l w v) e s with ⟨r | ⟨c,y⟩,e'⟩<;>intro h<;>exact h
 | l3 v s =>
  have h:=awo (e:=e) (a:=aaF e.l w) (b:=v) (q:=aat e.l w v) s
  revert h
  simp only [afF]
  rcases aeB (aaF e.l w) v (aat e.l w v) e s with ⟨r | ⟨c,y⟩,e'⟩<;>intro h<;>exact h
theorem aym {w v:Int} (s:WalkS):Stp 1 e (ad3 w v e s).2:=by
 cases s with
 | l1 t =>
  by_cases hf:asR e t v
  ·have h:=awv (e:=e) (w:=w) (t:=t) (v:=v) (.l1 0)
   simp only [ad3,hf,not_true,if_false]
   revert h
   rcases aea w t v e (.l1 0) with ⟨r | ⟨c,y⟩,e'⟩<;>intro h<;>exact h
  ·simp only [ad3,hf,not_false_eq_true,if_true]
   exact Stp.refl.le (by decide)
 | raise t s =>
  have h:=awv (e:=e) (w:=w) (t:=t) (v:=v) s
  revert h
  simp only [ad3]
  rcases aea w t v e s with ⟨r | ⟨c,y⟩,e'⟩<;>intro h<;>exact h
 | l2 t =>exact Stp.lk.le (by decide)
 | push t s =>
  have h:=agl (e:=e) (w:=w) (v:=v) (x:=t) s
  revert h
  simp only [ad3]
  rcases abw w v t e s with ⟨r | ⟨c,y⟩,e'⟩<;>intro h
  ·exact h.le (by decide)
  ·show Stp 1 e (if c=3 then _ else _)
   split
   ·exact h.em
   ·exact h.le (by decide)
 | l4 t =>exact Stp.lk.le (by decide)
theorem aCT {w t:Int} (s:EnterS):Stp 0 e (adg w t e s).2:=by
 cases s with
 | l1 =>
  by_cases hf:IsT e t
  ·simp only [adg,hf,not_true,if_false]; exact .pt (by decide)
  ·simp only [adg,hf,not_false_eq_true,if_true]; exact .refl
 | l2 =>exact .pt (by decide)
 | l3 =>exact .lk
 | l4 v s =>
  have h:=agl (e:=e) (w:=w) (v:=v) (x:=t) s
  revert h
  simp only [adg]
  rcases abw w v t e s with ⟨r | ⟨c,y⟩,e'⟩<;>intro h<;>exact h
theorem aBw {w t:Int} (s:SweepS):Stp 1 e (aba w t e s).2:=by
 cases s with
 | l1 =>
  by_cases hf:¬ IsT e t∨e.c.age=0
  ·simp only [aba,hf,if_true]; exact Stp.refl.le (by decide)
  ·simp only [aba,hf,if_false]; exact Stp.lk.le (by decide)
 | l2 =>exact Stp.lk.le (by decide)
 | l3 =>exact Stp.lk.le (by decide)
 | l4 q =>
  by_cases hf:e.hit (abx e.l t) q=true
  ·simp only [aba,hf,if_true]; exact Stp.cas.em
  ·simp only [aba,hf,if_false]; exact Stp.cas.le (by decide)
 | l5 q =>exact Stp.le (.pt (by decide)) (by decide)
 | l6 q s =>
  have h:=agl (e:=e) (w:=w) (v:=wi (wi q+1)) (x:=t) s
  revert h
  simp only [aba]
  rcases abw w (wi (wi q+1)) t e s with ⟨r | ⟨c,y⟩,e'⟩<;>intro h
  ·exact h.le (by decide)
  ·show Stp 1 e (if c=3 then _ else _)
   split
   ·exact h.em
   ·exact h.le (by decide)
theorem aEr {w:Int} (hr:∀ t,acN t e=true→0≤t∧t<(e.recs.length:Int)) (s:TakeS):Stp 1 e (ai5 w e s).2:=by
 cases s with
 | pop s =>
  have h:=aFN (e:=e) (w:=w) s
  revert h
  simp only [ai5]
  rcases afF w e s with ⟨r | ⟨c,y⟩,e'⟩<;>intro h<;>exact h.le (by decide)
 | claim t =>exact ame (hr t)
theorem aCY [Tb] {w:Int} (d:DrainS):Stp 1 e (aa3 w e d).2:=by
 obtain ⟨x,b,p,la,n,c⟩:=d
 cases c with
 | l1 =>exact Stp.lk.le (by decide)
 | l2 =>exact avr.le (by decide)
 | l3 s =>
  have h:=atm (e:=e) (w:=w) s
  revert h
  simp only [aa3]
  rcases acl w e s with ⟨r | ⟨c,y⟩,e'⟩<;>intro h<;>exact h
 | l4 =>exact Stp.lk.le (by decide)
 | l5 s =>
  have h:=agl (e:=e) (w:=w) (v:=p) (x:=x) s
  revert h
  simp only [aa3]
  rcases abw w p x e s with ⟨r | ⟨c,y⟩,e'⟩<;>intro h<;>exact h.le (by decide)
 | l6 =>exact avy.le (by decide)
 | l7 s =>
  have h:=aoJ (e:=e) (w:=w) (v:=la) s
  revert h
  simp only [aa3]
  rcases adN w la e s with ⟨r | ⟨c,y⟩,e'⟩<;>intro h<;>exact h
end
structure EOk (K:Nat) (e:EnvP):Prop where
 dq:0≤e.l.deque∧e.l.deque≤65535
 tk:e.l.tasks=(e.recs.length:Int)
 ct:e.c.tasks=(e.recs.length:Int)
 wk:1≤e.c.workers
 ev:e.evs.length≤K
 kd:∀ r∈e.recs,r.kids.length≤K
section
variable [Tb] {K:Nat} {e:EnvP}
theorem EOk.q (h:EOk K e) (w v:Int):(aat e.l w v).cap≤9223372036854775807:=by
 have:=h.dq
 unfold aat
 repeat' split
 all_goals simp only; omega
theorem EOk.st (h:EOk K e) {t o:Int} (hh:e.hit (aaN e.l t) o=true):0≤t∧t<(e.recs.length:Int):=by
 have h1:0≤aaN e.l t:=by
  have:=of_decide_eq_true hh
  exact this.1.1
 unfold aaN acU atP at h1
 rw [← h.tk]
 split at h1
 ·omega
 ·split at h1<;>omega
theorem EOk.step (h:EOk K e) {j:Nat} {e':EnvP} (s:Stp j e e'):EOk (K+j+1) e':=by
 refine ⟨?_,?_,?_,?_,?_,?_⟩
 ·rw [s.l]; exact h.dq
 ·rw [s.l,s.rl]; exact h.tk
 ·rw [s.c,s.rl]; exact h.ct
 ·rw [s.c]; exact h.wk
 ·have:=s.ev; have:=h.ev; omega
 ·intro r hr
  have:=s.kd K h.kd r hr
  omega
@[reducible] def apA (l : LayV) (w v x : Int) : LPushS → LPushV MV
 | .new =>⟨o0,w,v,x,1,.nil⟩
 | .push s =>⟨o0,w,v,x,1,.opush (awP (aat l w v) x s)⟩
 | .set =>⟨o0,w,v,x,2,.set ⟨o0,aaF l w,v⟩⟩
@[reducible] def aFO (l : LayV) (w : Int) : LPopS → LPopV MV
 | .l1 v =>⟨o0,w,v,1,.nil⟩
 | .l2 v s =>⟨o0,w,v,2,.opop (aCl (aat l w v) s)⟩
 | .l3 v s =>⟨o0,w,v,3,.reset (atl (aaF l w) v (aat l w v) s)⟩
@[reducible] def aEl (l : LayV) (w v : Int) : WalkS → WalkV MV
 | .l1 t =>⟨o0,w,t,v,1,.nil⟩
 | .raise t s =>⟨o0,w,t,v,1,.raise (ats w t v s)⟩
 | .l2 t =>⟨o0,w,t,v,2,.nil⟩
 | .push t s =>⟨o0,w,t,v,3,.lpush (apA l w v t s)⟩
 | .l4 t =>⟨o0,w,t,v,4,.nil⟩
@[reducible] def aAh (l : LayV) (w t : Int) : EnterS → EnterV MV
 | .l1 =>⟨o0,w,t,0,1,.nil⟩
 | .l2 =>⟨o0,w,t,0,2,.nil⟩
 | .l3 =>⟨o0,w,t,0,3,.nil⟩
 | .l4 v s =>⟨o0,w,t,v,4,.lpush (apA l w v t s)⟩
@[reducible] def agC (l : LayV) (w t : Int) : SweepS → SweepV MV
 | .l1 =>⟨o0,w,t,1,0,.nil⟩
 | .l2 =>⟨o0,w,t,2,0,.nil⟩
 | .l3 =>⟨o0,w,t,3,0,.nil⟩
 | .l4 q =>⟨o0,w,t,4,q,.nil⟩
 | .l5 q =>⟨o0,w,t,5,q,.nil⟩
 | .l6 q s =>⟨o0,w,t,6,q,.lpush (apA l w (wi (wi q+1)) t s)⟩
@[reducible] def aEs (l : LayV) (w : Int) : TakeS → TakeV MV
 | .pop s =>⟨o0,w,false,.lpop (aFO l w s)⟩
 | .claim t =>⟨o0,w,true,.claim ⟨o0,w,t⟩⟩
@[reducible] def aAj (l : LayV) (w p x last : Int) : DrainC → Int × MV
 | .l1 =>(1,.nil)
 | .l2 =>(2,.attempt ⟨o0,w,true⟩)
 | .l3 s =>(3,.remove (art w s))
 | .l4 =>(4,.nil)
 | .l5 s =>(5,.lpush (apA l w p x s))
 | .l6 =>(6,.release ⟨o0⟩)
 | .l7 s =>(7,.wake (as2 w last s))
@[reducible] def axi (l : LayV) (w : Int) (d : DrainS) : DrainV MV :=
 ⟨o0,w,(aAj l w d.p d.x d.last d.c).1,(aAj l w d.p d.x d.last d.c).2,d.x,d.direct,d.p,d.last,d.count⟩
theorem akI:(SR1.spl MV.nil).isNone=true:=rfl
theorem ayC (x:OPushV):(SR1.spl (MV.opush x)).isNone=false:=rfl
theorem aEI (x:SetV):(SR1.spl (MV.set x)).isNone=false:=rfl
theorem ayB (x:RaiseV):(SR1.spl (MV.raise x)).isNone=false:=rfl
theorem ajq {w v x:Int} (hK:EOk K e) (s:LPushS):aaV LPushV.o (apA e.l w v x) (acu (apA e.l w v x s) e) (abw w v x e s):=by
 have hq:=hK.q w v
 cases s with
 | new =>
  have h:=atF (e:=e) (v:=x) hq .l1
  have hn:=aoq (e:=e) (q:=aat e.l w v) (v:=x) .l1
  revert h hn
  simp only [abw,acu,akI,aaw,abg,o0,ajm,apo,ai8,Option.bind_some,if_true,Bool.false_eq_true,if_false]
  rcases aei (aat e.l w v) x e .l1 with ⟨r | ⟨c,y⟩,e'⟩<;>intro h hn
  ·simp only [aaV,o0] at h
   simp only [h,Option.bind_some,Bool.not_false,if_true]
   rfl
  ·simp only [aaV,o0] at h
   obtain ⟨x',h,ho⟩:=h
   have hnl:e'.l=e.l:=hn.l
   simp only [h,ho,aeP,Option.bind_some,Bool.not_true,Bool.false_eq_true,if_false,aeD,ajK,hnl,reduceIte,Int.reduceEq,aa0]
   exact aaV.ite (fun _ =>⟨_,rfl,rfl⟩) fun _ =>rfl
 | push s =>
  have h:=atF (e:=e) (v:=x) hq s
  have hn:=aoq (e:=e) (q:=aat e.l w v) (v:=x) s
  revert h hn
  simp only [abw,acu,ayC,aaw,abg,o0,ai8,Option.bind_some,if_true,Bool.false_eq_true,if_false]
  rcases aei (aat e.l w v) x e s with ⟨r | ⟨c,y⟩,e'⟩<;>intro h hn
  ·simp only [aaV] at h
   simp only [h,Option.bind_some,Bool.not_false,if_true]
   rfl
  ·simp only [aaV] at h
   obtain ⟨x',h,ho⟩:=h
   have hnl:e'.l=e.l:=hn.l
   simp only [h,ho,aeP,Option.bind_some,Bool.not_true,Bool.false_eq_true,if_false,aeD,ajK,hnl,reduceIte,Int.reduceEq,aa0]
   exact aaV.ite (fun _ =>⟨_,rfl,rfl⟩) fun _ =>rfl
 | set =>
  obtain ⟨y,h,ho⟩:=aET (e:=e) (a:=aaF e.l w) (b:=v)
  simp only [o0] at h
  simp only [abw,acu,aEI,aaw,abg,o0,ai8,h,ho,aeP,Option.bind_some,Bool.not_true,if_true,Bool.false_eq_true,if_false,reduceIte,Int.reduceEq]
  exact ⟨_,rfl,rfl⟩
theorem aCA {w:Int} (hK:EOk K e) (s:LPopS):aaV LPopV.o (aFO e.l w) (acY (aFO e.l w s) e) (afF w e s):=by
 cases s with
 | l1 v =>
  simp only [afF,acY,aim,aaw,abg,o0,aeD,abB,awI,ajm,arL,Option.bind_some,if_true,Bool.false_eq_true,if_false,aa0,aci]
  exact aaV.ite (fun _ =>⟨_,rfl,rfl⟩) fun _ =>rfl
 | l2 v s =>
  have h:=aCj (e:=e) (hK.q w v) s
  have hn:=azr (e:=e) (q:=aat e.l w v) s
  revert h hn
  simp only [afF,acY,aaw,abg,o0,ai8,Option.bind_some,if_true,Bool.false_eq_true,if_false,reduceIte,Int.reduceEq]
  rcases akM (aat e.l w v) e s with ⟨r | ⟨c,y⟩,e'⟩<;>intro h hn
  ·simp only [aaV] at h
   simp only [h,Option.bind_some,Bool.not_false,if_true]
   rfl
  ·simp only [aaV] at h
   obtain ⟨x',h,ho⟩:=h
   have hnl:e'.l=e.l:=hn.l
   simp only [h,ho,aeP,Option.bind_some,Bool.not_true,Bool.false_eq_true,if_true,if_false,aeD,ajm,agT,hnl,reduceIte,Int.reduceEq,aa0]
   exact aaV.ite (fun _ =>⟨_,rfl,rfl⟩) fun _ =>rfl
 | l3 v s =>
  have h:=atj (e:=e) (a:=aaF e.l w) (b:=v) (q:=aat e.l w v) s
  revert h
  simp only [afF,acY,aaw,abg,o0,ai8,Option.bind_some,if_true,Bool.false_eq_true,if_false,reduceIte,Int.reduceEq]
  rcases aeB (aaF e.l w) v (aat e.l w v) e s with ⟨r | ⟨c,y⟩,e'⟩<;>intro h
  ·simp only [aaV] at h
   simp only [h,Option.bind_some,Bool.not_false,if_true]
   rfl
  ·simp only [aaV] at h
   obtain ⟨x',h,ho⟩:=h
   simp only [h,ho,aeP,Option.bind_some,Bool.not_true,Bool.false_eq_true,if_true,if_false]
   rfl
theorem aBn {w v:Int} (hK:EOk K e) (hk:K≤100000000) (s:WalkS):aaV WalkV.o (aEl e.l w v) (ab4 (aEl e.l w v s) e) (ad3 w v e s):=by
 have hl:e.evs.length≤999999999:=by have:=hK.ev; omega
 cases s with
 | l1 t =>
  by_cases hf:asR e t v
  ·have h:=atq (e:=e) (w:=w) (t:=t) (v:=v) hl (.l1 0)
   revert h
   simp only [ad3,hf,ab4,aen,ase,decide_true,not_true,Bool.not_true,akI,anb,aaw,abg,o0,adJ,Option.bind_some,if_true,Bool.false_eq_true,if_false,reduceIte,Int.reduceEq]
   rcases aea w t v e (.l1 0) with ⟨r | ⟨c,y⟩,e'⟩<;>intro h
   ·simp only [aaV,o0] at h
    simp only [h,Option.bind_some,Bool.not_false,if_true]
    rfl
   ·simp only [aaV,o0] at h
    obtain ⟨x',h,ho⟩:=h
    simp only [h,ho,abz,Option.bind_some,Bool.not_true,Bool.false_eq_true,if_true,if_false,aa0,aci,at2]
    exact aaV.ite (fun _ =>rfl) fun _ =>rfl
  ·simp only [ad3,hf,ab4,aen,ase,decide_false,not_false_eq_true,Bool.not_false,akI,aaw,abg,o0,Option.bind_some,if_true,Bool.false_eq_true,if_false,reduceIte,Int.reduceEq]
   exact ⟨_,rfl,rfl⟩
 | raise t s =>
  have h:=atq (e:=e) (w:=w) (t:=t) (v:=v) hl s
  revert h
  simp only [ad3,ab4,aen,ayB,aaw,abg,o0,adJ,Option.bind_some,if_true,Bool.false_eq_true,if_false,reduceIte,Int.reduceEq]
  rcases aea w t v e s with ⟨r | ⟨c,y⟩,e'⟩<;>intro h
  ·simp only [aaV] at h
   simp only [h,Option.bind_some,Bool.not_false,if_true]
   rfl
  ·simp only [aaV] at h
   obtain ⟨x',h,ho⟩:=h
   simp only [h,ho,abz,Option.bind_some,Bool.not_true,Bool.false_eq_true,if_true,if_false,aa0,aci,at2]
   exact aaV.ite (fun _ =>rfl) fun _ =>rfl
 | l2 t =>
  simp only [ad3,ab4,aaw,abg,o0,aeT,abB,acA,Option.bind_some,if_true,Bool.false_eq_true,if_false,reduceIte,Int.reduceEq,aa0,at2]
  exact aaV.ite (fun _ =>rfl) fun _ =>rfl
 | push t s =>
  have h:=ajq (w:=w) (v:=v) (x:=t) hK s
  have hn:=agl (e:=e) (w:=w) (v:=v) (x:=t) s
  revert h hn
  simp only [ad3,ab4,aiD,aaw,abg,o0,adJ,Option.bind_some,if_true,Bool.false_eq_true,if_false,reduceIte,Int.reduceEq]
  rcases abw w v t e s with ⟨r | ⟨c,y⟩,e'⟩<;>intro h hn
  ·simp only [aaV] at h
   simp only [h,Option.bind_some,Bool.not_false,if_true]
   rw [← hn.l]
   rfl
  ·simp only [aaV] at h
   obtain ⟨x',h,ho⟩:=h
   have hl':e'.evs.length≤999999999:=by have h1:e'.evs.length≤e.evs.length+0:=hn.ev; have:=hK.ev; omega
   simp only [h,ho,abz,Option.bind_some,Bool.not_true,Bool.false_eq_true,if_true,if_false,ace hl']
   by_cases hc:c=3
   ·simp only [hc,if_true]; rfl
   ·simp only [hc,if_false]; rfl
 | l4 t =>
  simp only [ad3,ab4,aaw,abg,o0,aly,abB,Option.bind_some,if_true,Bool.false_eq_true,if_false,reduceIte,Int.reduceEq,aa0]
  exact aaV.ite (fun _ =>⟨_,rfl,rfl⟩) fun _ =>rfl
theorem aAf {w t:Int} (hK:EOk K e) (s:EnterS):aaV EnterV.o (aAh e.l w t) (ab2 (aAh e.l w t s) e) (adg w t e s):=by
 cases s with
 | l1 =>
  by_cases hf:IsT e t
  ·simp only [adg,hf,ab2,ajw,decide_true,not_true,Bool.not_true,aaw,abg,arD,o0,ajk,abv,Option.bind_some,if_true,Bool.false_eq_true,if_false,reduceIte,Int.reduceEq]
   rfl
  ·simp only [adg,hf,ab2,ajw,decide_false,not_false_eq_true,Bool.not_false,aaw,abg,o0,Option.bind_some,if_true,Bool.false_eq_true,if_false,reduceIte,Int.reduceEq]
   exact ⟨_,rfl,rfl⟩
 | l2 =>
  simp only [adg,ab2,aaw,abg,o0,aeT,abv,Option.bind_some,if_true,Bool.false_eq_true,if_false,reduceIte,Int.reduceEq]
  rfl
 | l3 =>
  simp only [adg,ab2,aaw,abg,o0,afD,abB,acA,Option.bind_some,if_true,Bool.false_eq_true,if_false,reduceIte,Int.reduceEq]
  rfl
 | l4 v s =>
  have h:=ajq (w:=w) (v:=v) (x:=t) hK s
  have hn:=agl (e:=e) (w:=w) (v:=v) (x:=t) s
  revert h hn
  simp only [adg,ab2,aaw,abg,o0,adJ,Option.bind_some,if_true,Bool.false_eq_true,if_false,reduceIte,Int.reduceEq]
  rcases abw w v t e s with ⟨r | ⟨c,y⟩,e'⟩<;>intro h hn
  ·simp only [aaV] at h
   simp only [h,Option.bind_some,Bool.not_false,if_true]
   rfl
  ·simp only [aaV] at h
   obtain ⟨x',h,ho⟩:=h
   simp only [h,ho,abz,Option.bind_some,Bool.not_true,Bool.false_eq_true,if_true,if_false]
   exact ⟨_,rfl,rfl⟩
theorem aBv {w:Int} (hK:EOk K e) (hk:K≤100000000) (s:TakeS):aaV TakeV.o (aEs e.l w) (aeA (aEs e.l w s) e) (ai5 w e s):=by
 have hl:e.evs.length≤999999999:=by have:=hK.ev; omega
 cases s with
 | pop s =>
  have h:=aCA (w:=w) hK s
  revert h
  simp only [ai5,aeA,aaw,abg,o0,adJ,Option.bind_some,if_true,Bool.false_eq_true,if_false]
  rcases afF w e s with ⟨r | ⟨c,y⟩,e'⟩<;>intro h
  ·simp only [aaV] at h
   simp only [h,Option.bind_some,Bool.not_false,if_true]
   rfl
  ·simp only [aaV] at h
   obtain ⟨x',h,ho⟩:=h
   simp only [h,ho,abz,acy,Option.bind_some,Bool.not_true,Bool.false_eq_true,if_true,if_false,aa0]
   exact aaV.ite (fun _ =>⟨_,rfl,rfl⟩) fun _ =>rfl
 | claim t =>
  obtain ⟨x',h,ho⟩:=amd (w:=w) (t:=t) hl hK.st
  simp only [o0] at h
  simp only [ai5,aeA,aaw,abg,o0,adJ,h,Option.bind_some,if_true,Bool.false_eq_true,if_false,abz,Bool.not_true,afG]
  rcases Bool.eq_false_or_eq_true (acN t e) with hc | hc
  ·simp only [hc,if_true] at ho ⊢
   simp only [ho,if_true]
   exact ⟨_,rfl,rfl⟩
  ·simp only [hc,Bool.false_eq_true,if_false] at ho ⊢
   simp only [ho,reduceIte,Int.reduceEq]
   rfl
end
section
variable [Tb] {K:Nat} {e:EnvP}
theorem aBC {w t:Int} (hK:EOk K e) (hk:K≤100000000):aaV SweepV.o (agC e.l w t) (aaC (agC e.l w t .l1) e) (aba w t e .l1):=by
 have hl:e.evs.length≤999999999:=by have:=hK.ev; omega
 have hm:∀ m v,aec { e with m:=m } v=some ((),({ e with m:=m,evs:=e.evs++[v] },())):=fun m v =>ace (e:={ e with m:=m }) hl
 by_cases c1:t<0
 ·have hf:¬ IsT e t∨e.c.age=0:=.inl fun h =>by have:=h.1; omega
  simp only [aba]
  rw [if_pos hf]
  simp only [aaC,abD,c1,aaw,abg,o0,Option.bind_some,Bool.false_eq_true,if_false,reduceIte,Int.reduceEq]
  exact ⟨_,rfl,rfl⟩
 by_cases c2:e.c.tasks≤t
 ·have hf:¬ IsT e t∨e.c.age=0:=.inl fun h =>by have:=h.2; omega
  simp only [aba]
  rw [if_pos hf]
  simp only [aaC,abD,c1,c2,aaw,abg,o0,Option.bind_some,Bool.false_eq_true,if_false,reduceIte,Int.reduceEq]
  exact ⟨_,rfl,rfl⟩
 by_cases c3:e.c.age=0
 ·have hf:¬ IsT e t∨e.c.age=0:=.inr c3
  simp only [aba]
  rw [if_pos hf]
  simp only [aaC,abD,c1,c2,c3,decide_true,aaw,abg,o0,Option.bind_some,Bool.false_eq_true,if_false,reduceIte,Int.reduceEq]
  exact ⟨_,rfl,rfl⟩
 have hf:¬ (¬ IsT e t∨e.c.age=0):=fun h =>h.elim (fun h =>h ⟨by omega,by omega⟩) c3
 simp only [aba]
 rw [if_neg hf]
 simp only [aaC,abD,c1,c2,c3,decide_false,aaw,abg,o0,Option.bind_some,Bool.false_eq_true,if_true,reduceIte,Int.reduceEq,aeT,abB,decide_eq_true_eq,aa0]
 refine aaV.iteL (fun h =>?_) fun h =>?_
 ·rw [if_neg h]; exact ⟨_,rfl,rfl⟩
 ·rw [if_pos (Classical.not_not.1 h)]; rfl
theorem aBB {w t:Int} (hK:EOk K e) (hk:K≤100000000):aaV SweepV.o (agC e.l w t) (aaC (agC e.l w t .l2) e) (aba w t e .l2):=by
 have hl:e.evs.length≤999999999:=by have:=hK.ev; omega
 have hm:∀ m v,aec { e with m:=m } v=some ((),({ e with m:=m,evs:=e.evs++[v] },())):=fun m v =>ace (e:={ e with m:=m }) hl
 simp only [aba,aaC,abD,aaw,abg,arD,o0,Option.bind_some,if_true,Bool.false_eq_true,if_false,reduceIte,Int.reduceEq,ajk,abB,decide_eq_true_eq,aa0]
 exact aaV.ite (fun _ =>⟨_,rfl,rfl⟩) fun _ =>rfl
theorem aBA {w t:Int} (hK:EOk K e) (hk:K≤100000000):aaV SweepV.o (agC e.l w t) (aaC (agC e.l w t .l3) e) (aba w t e .l3):=by
 have hl:e.evs.length≤999999999:=by have:=hK.ev; omega
 have hm:∀ m v,aec { e with m:=m } v=some ((),({ e with m:=m,evs:=e.evs++[v] },())):=fun m v =>ace (e:={ e with m:=m }) hl
 simp only [aba,aaC,abD,aaw,abg,o0,Option.bind_some,if_true,Bool.false_eq_true,if_false,reduceIte,Int.reduceEq,afD,abB,decide_eq_true_eq,aa0]
 exact aaV.ite (fun _ =>⟨_,rfl,rfl⟩) fun _ =>rfl
theorem aBz {w t:Int} (hK:EOk K e) (hk:K≤100000000) (q:Int):aaV SweepV.o (agC e.l w t) (aaC (agC e.l w t (.l4 q)) e) (aba w t e (.l4 q)):=by
 have hl:e.evs.length≤999999999:=by have:=hK.ev; omega
 have hm:∀ m v,aec { e with m:=m } v=some ((),({ e with m:=m,evs:=e.evs++[v] },())):=fun m v =>ace (e:={ e with m:=m }) hl
 have he:∀ x:SweepV MV,abO x 12=some ((⟨12,x.worker,x.task,0,wi (wi x.q+1)⟩,()),(x,())):=fun x =>id rfl
 simp only [aba,aaC,he,aaw,abg,o0,Option.bind_some,if_true,Bool.false_eq_true,if_false,reduceIte,Int.reduceEq,afD,ajp,hm]
 exact aaV.iteN (fun _ =>rfl) fun _ =>⟨_,rfl,rfl⟩
theorem aBy {w t:Int} (hK:EOk K e) (hk:K≤100000000) (q:Int):aaV SweepV.o (agC e.l w t) (aaC (agC e.l w t (.l5 q)) e) (aba w t e (.l5 q)):=by
 have hl:e.evs.length≤999999999:=by have:=hK.ev; omega
 have hm:∀ m v,aec { e with m:=m } v=some ((),({ e with m:=m,evs:=e.evs++[v] },())):=fun m v =>ace (e:={ e with m:=m }) hl
 simp only [aba,aaC,aaw,abg,arD,o0,Option.bind_some,if_true,Bool.false_eq_true,if_false,reduceIte,Int.reduceEq,ajk,abv,acA]
 rfl
theorem bnd {α β:Type} {a:α} {f:α→Option β}:(some a).bind f=f a:=by
 generalize h:some a=x
 subst h
 rfl
theorem aBx {w t:Int} (hK:EOk K e) (hk:K≤100000000) (q:Int) (s:LPushS):aaV SweepV.o (agC e.l w t) (aaC (agC e.l w t (.l6 q s)) e) (aba w t e (.l6 q s)):=by
 have h:=ajq (w:=w) (v:=wi (wi q+1)) (x:=t) hK s
 have hn:=agl (e:=e) (w:=w) (v:=wi (wi q+1)) (x:=t) s
 have he:∀ x:SweepV MV,abO x 19=some ((⟨19,x.worker,x.task,0,wi (wi x.q+1)⟩,()),(x,())):=fun x =>id rfl
 revert h hn
 simp only [aba,aaC,he,bnd,aaw,abg,o0,adJ,if_true,Bool.false_eq_true,if_false,reduceIte,Int.reduceEq]
 rcases abw w (wi (wi q+1)) t e s with ⟨r | ⟨c,y⟩,e'⟩<;>intro h hn
 ·simp only [aaV] at h
  simp only [h,bnd,Bool.not_false,if_true]
  rfl
 ·simp only [aaV] at h
  obtain ⟨x',h,ho⟩:=h
  have hl':e'.evs.length≤999999999:=by have h1:e'.evs.length≤e.evs.length+0:=hn.ev; have:=hK.ev; omega
  simp only [h,ho,abz,bnd,Bool.not_true,Bool.false_eq_true,if_true,if_false,ace hl']
  by_cases hc:c=3
  ·simp only [hc,if_true]; exact ⟨_,rfl,rfl⟩
  ·simp only [hc,if_false]; exact ⟨_,rfl,rfl⟩
theorem ayt {w t:Int} (hK:EOk K e) (hk:K≤100000000) (s:SweepS):aaV SweepV.o (agC e.l w t) (aaC (agC e.l w t s) e) (aba w t e s):=by
 cases s with
 | l1 =>exact aBC hK hk
 | l2 =>exact aBB hK hk
 | l3 =>exact aBA hK hk
 | l4 q =>exact aBz hK hk q
 | l5 q =>exact aBy hK hk q
 | l6 q s =>exact aBx hK hk q s
end
section
variable [Tb] {K:Nat} {e:EnvP}
theorem az7 {w:Int} {l:LayV} {ln:Int} {m:MV} {d:DrainS} {e':EnvP}:aaV DrainV.o (axi l w) (((aaY ⟨⟨false,0,0⟩,w,ln,m,d.x,d.direct,d.p,d.last,d.count⟩).bind fun r =>some ((r.1.1,()),(r.2.1,e',()))).bind fun r =>some ((r.1.1,()),(r.2.1,r.2.2.1,()))) (al3 d,e'):=by
 obtain ⟨x,b,p,la,n,c⟩:=d
 unfold al3
 simp only [aaY,abg,bnd,o0,aci,aa0]
 exact aaV.ite (fun _ =>⟨_,rfl,rfl⟩) fun _ =>aaV.ite (fun _ =>⟨_,rfl,rfl⟩) fun _ =>⟨_,rfl,rfl⟩
def asS (d:DrainS):Prop:=match d.c with
 | .l6 =>True
 | .l7 _ =>True
 | _ =>d.direct=false
theorem aAi {w:Int} (hK:EOk K e) (hk:K≤100000000) (d:DrainS) (hd:asS d):aaV DrainV.o (axi e.l w) (abm (axi e.l w d) e) (aa3 w e d):=by
 have hl:e.evs.length≤999999999:=by have:=hK.ev; omega
 obtain ⟨x,b,p,la,n,c⟩:=d
 cases c with
 | l1 =>
  simp only [aa3,abm,aaK,avs,aaw,abg,af6,o0,abB,bnd,if_true,Bool.false_eq_true,if_false,reduceIte,Int.reduceEq,aa0]
  exact aaV.ite (fun _ =>⟨_,rfl,rfl⟩) fun _ =>rfl
 | l2 =>
  obtain ⟨dn,x',h,ho,hd,_⟩:=arW (e:=e) (w:=w) (b:=true)
  rw [Bool.or_true] at hd
  subst hd
  have ho:=ho rfl
  simp only [o0] at h
  simp only [aa3,abm,acH,abq,aaK,afr,aaw,abg,o0,adJ,h,bnd,if_true,Bool.false_eq_true,if_false,reduceIte,Int.reduceEq,abz,Bool.not_true]
  rcases Bool.eq_false_or_eq_true (e.hit 1 0) with hh | hh
  ·simp only [hh,if_true] at ho ⊢
   simp only [ho,reduceIte,Int.reduceEq]
   rfl
  ·simp only [hh,Bool.false_eq_true,if_false] at ho ⊢
   simp only [ho,reduceIte,Int.reduceEq]
   exact ⟨_,rfl,rfl⟩
 | l3 s =>
  have h:=axO (e:=e) (w:=w) hl s
  have hn:=atm (e:=e) (w:=w) s
  revert h hn
  simp only [aa3,abm,aaw,abg,o0,adJ,bnd,if_true,Bool.false_eq_true,if_false,reduceIte,Int.reduceEq]
  rcases acl w e s with ⟨r | ⟨c,y⟩,e'⟩<;>intro h hn
  ·simp only [aaV] at h
   simp only [h,bnd,Bool.not_false,if_true]
   rfl
  ·simp only [aaV] at h
   obtain ⟨x',h,ho⟩:=h
   simp only [h,ho,abz,acH,aa1,aaK,afg,bnd,Bool.not_true,Bool.false_eq_true,if_true,if_false,reduceIte,Int.reduceEq,aci,aa0]
   exact aaV.ite (fun _ =>rfl) fun _ =>rfl
 | l4 =>
  simp only [aa3,abm,aaK,acA,aaw,abg,o0,afD,abB,bnd,if_true,Bool.false_eq_true,if_false,reduceIte,Int.reduceEq]
  rfl
 | l5 s =>
  have h:=ajq (w:=w) (v:=p) (x:=x) hK s
  have hn:=agl (e:=e) (w:=w) (v:=p) (x:=x) s
  revert h hn
  simp only [aa3,abm,aaw,abg,o0,adJ,bnd,if_true,Bool.false_eq_true,if_false,reduceIte,Int.reduceEq]
  rcases abw w p x e s with ⟨r | ⟨c,y⟩,e'⟩<;>intro h hn
  ·simp only [aaV] at h
   simp only [h,bnd,Bool.not_false,if_true]
   rfl
  ·simp only [aaV] at h
   obtain ⟨x',h,ho⟩:=h
   have hc:e'.c=e.c:=hn.c
   simp only [h,ho,abz,acH,acO,abq,aa1,aaK,afr,afg,bnd,Bool.not_true,Bool.false_eq_true,if_true,if_false,reduceIte,Int.reduceEq,aci,aa0,hc]
   have hb:b=false:=hd
   subst hb
   simp only [Bool.false_eq_true,if_false]
   exact aaV.ite (fun _ =>rfl) fun _ =>aaV.ite (fun _ =>rfl) fun _ =>rfl
 | l6 =>
  obtain ⟨x',h,ho⟩:=aw7 (e:=e)
  simp only [o0] at h
  simp only [aa3,abm,acH,aaK,acV,aaw,abg,o0,adJ,h,ho,bnd,if_true,Bool.false_eq_true,if_false,reduceIte,Int.reduceEq,abz,Bool.not_true,aci,aa0]
  exact aaV.ite (fun _ =>rfl) fun _ =>az7 (d:=⟨x,b,p,la,n,.l6⟩)
 | l7 s =>
  have h:=ak6 (e:=e) (w:=w) (v:=la) hl s
  revert h
  simp only [aa3,abm,aaw,abg,o0,adJ,bnd,if_true,Bool.false_eq_true,if_false,reduceIte,Int.reduceEq]
  rcases adN w la e s with ⟨r | ⟨c,y⟩,e'⟩<;>intro h
  ·simp only [aaV] at h
   simp only [h,bnd,Bool.not_false,if_true]
   rfl
  ·simp only [aaV] at h
   obtain ⟨x',h,ho⟩:=h
   simp only [h,ho,abz,acH,bnd,Bool.not_true,Bool.false_eq_true,if_true,if_false,reduceIte,Int.reduceEq]
   exact az7 (d:=⟨x,b,p,la,n,.l7 s⟩)
theorem aCX {w:Int} {d d':DrainS} {e':EnvP} (hd:asS d) (h:aa3 w e d=(.go d',e')):asS d':=by
 obtain ⟨x,b,p,la,n,c⟩:=d
 cases c with
 | l1 =>
  simp only [aa3] at h
  split at h<;>cases h
  exact hd
 | l2 =>
  simp only [aa3] at h
  split at h<;>cases h
  exact hd
 | l3 s =>
  simp only [aa3] at h
  split at h
  ·cases h; exact hd
  ·split at h<;>cases h
   ·trivial
   ·exact hd
 | l4 =>cases h; exact hd
 | l5 s =>
  simp only [aa3] at h
  split at h
  ·cases h; exact hd
  ·split at h
   ·cases h; trivial
   ·split at h<;>cases h
    ·exact hd
    ·trivial
 | l6 =>
  simp only [aa3] at h
  split at h
  ·cases h; trivial
  ·unfold al3 at h
   repeat' split at h
   all_goals cases h
 | l7 s =>
  simp only [aa3] at h
  split at h
  ·cases h; trivial
  ·unfold al3 at h
   repeat' split at h
   all_goals cases h
end
structure SOk (l:List Int):Prop where
 ne:l≠[]
 le:l.length≤999999999
section
variable {l:List Int}
theorem SOk.n (h:SOk l):wi (((l.length:Nat):Int)-1)=((l.length-1:Nat):Int):=by
 have h1:=List.length_pos_iff.2 h.ne
 have h2:=h.le
 rw [aaM (aas (by omega))]; omega
theorem SOk.a (h:SOk l):abn l ((l.length-1:Nat):Int)=aaA l:=by
 have h1:=List.length_pos_iff.2 h.ne
 have h2:l[l.length-1]?=some (l[l.length-1]'(by omega)):=List.getElem?_eq_getElem _
 simp only [abn,atL,aaA,Int.toNat_natCast,List.getLast?_eq_getElem?,h2]
 rfl
theorem SOk.g (h:SOk l):(0≤((l.length-1:Nat):Int)∧((l.length-1:Nat):Int)<((l.length:Nat):Int))=True:=by
 have h1:=List.length_pos_iff.2 h.ne
 exact eq_true ⟨by omega,by omega⟩
theorem SOk.g2 (h:SOk l):(0≤((l.length-1:Nat):Int)∧((l.length-1:Nat):Int)≤((l.length:Nat):Int))=True:=by
 have h1:=List.length_pos_iff.2 h.ne
 exact eq_true ⟨by omega,by omega⟩
theorem SOk.t (h:SOk l):l.take (((l.length-1:Nat):Int)).toNat=l.dropLast:=by
 rw [List.dropLast_eq_take]; simp
theorem SOk.s (h:SOk l) (y:Int):l.set (((l.length-1:Nat):Int)).toNat y=l.dropLast++[y]:=by
 obtain ⟨a,b,rfl⟩:∃ a b,l=a++[b]:=⟨l.dropLast,l.getLast h.ne,(List.dropLast_concat_getLast h.ne).symm⟩
 simp
end
section
variable [Tb] {e:EnvP} {o:OutV} {w ln id ch lv wt:Int} {st:List Int} {m:MV}
theorem aml {rs:List RecP} {t:Int} {r:RecP} (h:0≤t∧t<(rs.length:Int)):aab (rs.set t.toNat r) t=r:=aAQ h
theorem atp {rs:List RecP} {t:Int} (h:0≤t∧t<(rs.length:Int)):rs.set t.toNat (aab rs t)=rs:=by
 have h1:=ae0 (d:=(dfR 26:RecP)) (xs:=rs) h
 have h2:t.toNat<rs.length:=by omega
 refine List.ext_getElem? fun i =>?_
 by_cases hi:t.toNat=i
 ·subst hi
  rw [List.getElem?_set_self h2]
  exact h1.symm
 ·rw [List.getElem?_set_ne hi]
def afj (x:RecP) (p:List Ins):Int :=
 if x.waiting ≠ -1 then 1
 else if x.pc<0∨(p.length:Int)≤x.pc then 16
 else if (abX p x.pc).op=0 then 2
 else if (abX p x.pc).op=1 then 4
 else if (abX p x.pc).a<0∨(x.kids.length:Int)≤(abX p x.pc).a∨abn x.kids (abX p x.pc).a=-1 then 3
 else 9
theorem apb {x:RecP} (h1:¬ x.prog<0) (h2:¬ (e.c.progs.length:Int)≤x.prog):e.prog x=atL [] e.c.progs x.prog:=by
 unfold EnvP.prog
 rw [if_neg (by omega)]
theorem afp {x:RecP} (h:x.prog<0∨(e.c.progs.length:Int)≤x.prog):e.prog x=[]:=by
 unfold EnvP.prog
 rw [if_pos h]
theorem aAA {x:RunV MV} (hS:SOk x.stack) (hT:0≤aaA x.stack∧aaA x.stack<(e.recs.length:Int)):aeO x e=some ((afj (e.rc (aaA x.stack)) (e.prog (e.rc (aaA x.stack))),()),(x,e,())):=by
 unfold aeO
 try simp only [tpI,tlI]
 simp only [hS.n,hS.a,hS.g,hT,and_self,if_true,atp hT]
 show _=some ((afj (aab e.recs (aaA x.stack)) (e.prog (aab e.recs (aaA x.stack))),()),(x,e,()))
 generalize aab e.recs (aaA x.stack)=r
 by_cases h1:r.prog<0
 ·rw [afp (.inl h1)]
  simp only [h1,if_true,afj,List.length_nil]
  split
  ·rfl
  ·rw [if_pos (show r.pc<0∨((0:Nat):Int)≤r.pc by omega)]
   split
   ·rfl
   ·rw [if_pos (by omega)]
 by_cases h2:(e.c.progs.length:Int)≤r.prog
 ·rw [afp (.inr h2)]
  simp only [h1,h2,if_true,if_false,afj,List.length_nil]
  split
  ·rfl
  ·rw [if_pos (show r.pc<0∨((0:Nat):Int)≤r.pc by omega)]
   split
   ·rfl
   ·rw [if_pos (by omega)]
 rw [apb h1 h2]
 generalize atL [] e.c.progs r.prog=p
 unfold afj
 rw [if_neg h1,if_neg h2]
 rw [if_pos (show 0≤r.prog∧r.prog<(e.c.progs.length:Int) by omega)]
 by_cases hw:r.waiting ≠ -1
 ·rw [if_pos hw,if_pos hw]
 rw [if_neg hw,if_neg hw]
 by_cases h3:r.pc<0
 ·rw [if_pos h3,if_pos (.inl h3)]
 by_cases h4:(p.length:Int)≤r.pc
 ·rw [if_neg h3,if_pos h4,if_pos (.inr h4)]
 rw [if_neg h3,if_neg h4,if_neg (show ¬ (r.pc<0∨(p.length:Int)≤r.pc) by omega)]
 have hp:0≤r.pc∧r.pc<(p.length:Int):=by omega
 rw [if_pos hp]
 by_cases c1:(abX p r.pc).op=0
 ·rw [if_pos c1,if_pos c1]
 rw [if_neg c1,if_neg c1,if_pos hp]
 by_cases c2:(abX p r.pc).op=1
 ·rw [if_pos c2,if_pos c2]
 rw [if_neg c2,if_neg c2,if_pos hp]
 by_cases h5:(abX p r.pc).a<0
 ·rw [if_pos h5,if_pos (.inl h5)]
 by_cases h6:(r.kids.length:Int)≤(abX p r.pc).a
 ·rw [if_neg h5,if_pos h6,if_pos (.inr (.inl h6))]
 rw [if_neg h5,if_neg h6,if_pos (show 0≤(abX p r.pc).a∧(abX p r.pc).a<(r.kids.length:Int) by omega)]
 by_cases h7:abn r.kids (abX p r.pc).a=-1
 ·rw [if_pos h7,if_pos (.inr (.inr h7))]
 ·rw [if_neg h7,if_neg (by omega)]
theorem amB {x:RunV MV} {v:Ev} (h:e.evs.length≤999999999):aaG x e v=some ((),(x,{ e with evs:=e.evs++[{ v with worker:=x.worker }] },())):=by
 unfold aaG
 try simp only [tpI,tlI]
 rw [ace h,bnd]
theorem aES (hS:SOk st) (hT:0≤aaA st∧aaA st<(e.recs.length:Int)):aaE ⟨o,w,st,1,m,id,ch,lv,wt⟩ e=some ((false,()),(⟨o,w,st,0,.nil,id,ch,lv,wt⟩,(e.pt 2 (ad9 e.l (aaA st)) 0).pr (aaA st) { e.rc (aaA st) with waiting := -1 },())):=by
 unfold aaE
 try simp only [tpI,tlI]
 simp only [tpI,tlI,hS.n,hS.a,hS.g,hT,and_self,if_true,aly,abv,aac,bnd]
 rfl
theorem aER (hS:SOk st) (hT:0≤aaA st∧aaA st<(e.recs.length:Int)) (hp:¬ ((e.rc (aaA st)).pc<0∨((e.prog (e.rc (aaA st))).length:Int)≤(e.rc (aaA st)).pc)):aaE ⟨o,w,st,2,m,id,ch,lv,wt⟩ e=some ((false,()),(⟨o,w,st,0,.nil,id,ch,lv,wt⟩,e.pr (aaA st) (asp (e.rc (aaA st)) (abX (e.prog (e.rc (aaA st))) (e.rc (aaA st)).pc)),())):=by
 unfold aaE
 try simp only [tpI,tlI]
 simp only [tpI,tlI,hS.n,hS.a,hS.g,hT,and_self,if_true,Int.reduceEq,if_false,aml hT,List.set_set,aac,bnd,List.length_set]
 show _=some ((false,()),(_,{ e with recs:=e.recs.set (aaA st).toNat (asp (aab e.recs (aaA st)) (abX (e.prog (aab e.recs (aaA st))) (aab e.recs (aaA st)).pc)) },()))
 have hp':¬ ((aab e.recs (aaA st)).pc<0∨((e.prog (aab e.recs (aaA st))).length:Int)≤(aab e.recs (aaA st)).pc):=hp
 generalize aab e.recs (aaA st)=r at hp' ⊢
 by_cases h1:r.prog<0
 ·rw [afp (.inl h1)] at hp'; simp only [List.length_nil] at hp'; omega
 by_cases h2:(e.c.progs.length:Int)≤r.prog
 ·rw [afp (.inr h2)] at hp'; simp only [List.length_nil] at hp'; omega
 rw [apb h1 h2] at hp' ⊢
 have h3:(0≤r.prog∧r.prog<(e.c.progs.length:Int))=True:=eq_true (by omega)
 have h4:(0≤r.pc∧r.pc<((atL [] e.c.progs r.prog).length:Int))=True:=eq_true (by omega)
 simp only [h1,h2,h3,h4,if_true,if_false,asp]
 by_cases h5:r.left=0
 ·simp only [h5,if_true]
  split<;>rfl
 ·simp only [h5,if_false]
  split<;>rfl
theorem aEQ (hS:SOk st) (hT:0≤aaA st∧aaA st<(e.recs.length:Int)):aaE ⟨o,w,st,3,m,id,ch,lv,wt⟩ e=some ((false,()),(⟨o,w,st,0,.nil,id,ch,lv,wt⟩,e.pr (aaA st) { e.rc (aaA st) with pc:=wi ((e.rc (aaA st)).pc+1) },())):=by
 unfold aaE
 try simp only [tpI,tlI]
 simp only [tpI,tlI,hS.n,hS.a,hS.g,hT,and_self,if_true,Int.reduceEq,if_false,aac,bnd]
 rfl
end
end
section
open Go Go.RowKit
set_option maxRecDepth 100000
set_option maxRecDepth 100000
section
variable [Tb] {e:EnvP} {o:OutV} {w ln id ch lv wt:Int} {st:List Int} {m:MV}
theorem aya (hS:SOk st) (hT:0≤aaA st∧aaA st<(e.recs.length:Int)) (hp:¬ ((e.rc (aaA st)).pc<0∨((e.prog (e.rc (aaA st))).length:Int)≤(e.rc (aaA st)).pc)) (hl:e.evs.length≤999999999) (hk:(e.rc (aaA st)).kids.length≤999999999) (v:Int) :
  acd ⟨o,w,st,4,m,id,ch,lv,wt⟩ e 3 v=some ((false,()),(⟨o,w,st,0,.nil,id,ch,lv,wt⟩,(e.pr (aaA st) { e.rc (aaA st) with pc:=wi ((e.rc (aaA st)).pc+1),kids:=(e.rc (aaA st)).kids++[-1] }).em 4 w (aaA st) 0 0,())):=by
 unfold acd
 try unfold tpI
 try unfold tlI
 have he:∀ (x:RunV MV) (rs:List RecP) (v:Ev),aaG x { e with recs:=rs } v=some ((),(x,{ e with recs:=rs,evs:=e.evs++[{ v with worker:=x.worker }] },())):=fun x rs v =>amB (e:={ e with recs:=rs }) hl
 simp only [hS.n,hS.a,hS.g,hT,and_self,if_true,aml hT,List.set_set,List.length_set]
 have hp':¬ ((aab e.recs (aaA st)).pc<0∨((e.prog (aab e.recs (aaA st))).length:Int)≤(aab e.recs (aaA st)).pc):=hp
 have hk':(aab e.recs (aaA st)).kids.length≤999999999:=hk
 show _=some ((false,()),(_,EnvP.em { e with recs:=e.recs.set (aaA st).toNat { aab e.recs (aaA st) with pc:=wi ((aab e.recs (aaA st)).pc+1),kids:=(aab e.recs (aaA st)).kids++[-1] } } 4 w (aaA st) 0 0,()))
 generalize aab e.recs (aaA st)=r at hp' hk' ⊢
 by_cases h1:r.prog<0
 ·rw [afp (.inl h1)] at hp'; simp only [List.length_nil] at hp'; omega
 by_cases h2:(e.c.progs.length:Int)≤r.prog
 ·rw [afp (.inr h2)] at hp'; simp only [List.length_nil] at hp'; omega
 rw [apb h1 h2] at hp'
 rw [if_neg h1,if_neg h2,if_pos (show 0≤r.prog∧r.prog<(e.c.progs.length:Int) by omega),if_pos (show 0≤r.pc∧r.pc<((atL [] e.c.progs r.prog).length:Int) by omega),if_pos (show (((r.kids.length+([-1]:List Int).length:Nat)):Int)<1000000000000 by rw [List.length_singleton]; omega)]
 rw [he,bnd,aac,bnd]
 rfl
theorem aAZ (hS:SOk st) (hT:0≤aaA st∧aaA st<(e.recs.length:Int)) (hp:¬ ((e.rc (aaA st)).pc<0∨((e.prog (e.rc (aaA st))).length:Int)≤(e.rc (aaA st)).pc)) (hk:(e.rc (aaA st)).kids.length≤999999999) (v:Int) (hv:0≤v∧v<(e.recs.length:Int)) :
  acd ⟨o,w,st,4,m,id,ch,lv,wt⟩ e 1 v=some ((false,()),(⟨o,w,st,5,.publish ⟨o0,v,(abX (e.prog (e.rc (aaA st))) (e.rc (aaA st)).pc).b,1⟩,v,ch,(abX (e.prog (e.rc (aaA st))) (e.rc (aaA st)).pc).b,wt⟩,(e.pr (aaA st) { e.rc (aaA st) with pc:=wi ((e.rc (aaA st)).pc+1),kids:=(e.rc (aaA st)).kids++[v] }).pr v (awU (abX (e.prog (e.rc (aaA st))) (e.rc (aaA st)).pc).a (aaA st)),())):=by
 unfold acd
 try unfold tpI
 try unfold tlI
 simp only [hS.n,hS.a,hS.g,hT,and_self,if_true,aml hT,List.set_set,List.length_set,Int.reduceEq,if_false,hv]
 have hp':¬ ((aab e.recs (aaA st)).pc<0∨((e.prog (aab e.recs (aaA st))).length:Int)≤(aab e.recs (aaA st)).pc):=hp
 have hk':(aab e.recs (aaA st)).kids.length≤999999999:=hk
 show _=some ((false,()),((⟨o,w,st,5,.publish ⟨o0,v,(abX (e.prog (aab e.recs (aaA st))) (aab e.recs (aaA st)).pc).b,1⟩,v,ch,(abX (e.prog (aab e.recs (aaA st))) (aab e.recs (aaA st)).pc).b,wt⟩:RunV MV),({ e with recs:=(e.recs.set (aaA st).toNat { aab e.recs (aaA st) with pc:=wi ((aab e.recs (aaA st)).pc+1),kids:=(aab e.recs (aaA st)).kids++[v] }).set v.toNat ⟨(abX (e.prog (aab e.recs (aaA st))) (aab e.recs (aaA st)).pc).a,aaA st,0,0,-1,[],false⟩ }:EnvP),()))
 generalize aab e.recs (aaA st)=r at hp' hk' ⊢
 by_cases h1:r.prog<0
 ·rw [afp (.inl h1)] at hp'; simp only [List.length_nil] at hp'; omega
 by_cases h2:(e.c.progs.length:Int)≤r.prog
 ·rw [afp (.inr h2)] at hp'; simp only [List.length_nil] at hp'; omega
 rw [apb h1 h2] at hp' ⊢
 rw [if_neg h1,if_neg h2,if_pos (show 0≤r.prog∧r.prog<(e.c.progs.length:Int) by omega),if_pos (show 0≤r.pc∧r.pc<((atL [] e.c.progs r.prog).length:Int) by omega),if_pos (show (((r.kids.length+([v]:List Int).length:Nat)):Int)<1000000000000 by rw [List.length_singleton]; omega)]
 rw [ai6,bnd,aac,bnd]
theorem aJZ (hS:SOk st) (hT:0≤aaA st∧aaA st<(e.recs.length:Int)) (hp:¬ ((e.rc (aaA st)).pc<0∨((e.prog (e.rc (aaA st))).length:Int)≤(e.rc (aaA st)).pc)) (ha:¬ ((abX (e.prog (e.rc (aaA st))) (e.rc (aaA st)).pc).a<0∨((e.rc (aaA st)).kids.length:Int)≤(abX (e.prog (e.rc (aaA st))) (e.rc (aaA st)).pc).a)) :
  aaJ ⟨o,w,st,9,m,id,ch,lv,wt⟩ e=some ((false,()),(⟨o,w,st,10,.nil,id,abn (e.rc (aaA st)).kids (abX (e.prog (e.rc (aaA st))) (e.rc (aaA st)).pc).a,lv,wt⟩,(e.pt 2 (ad9 e.l (aaA st)) (wu (wi (abn (e.rc (aaA st)).kids (abX (e.prog (e.rc (aaA st))) (e.rc (aaA st)).pc).a+1)))).pr (aaA st) { e.rc (aaA st) with pc:=wi ((e.rc (aaA st)).pc+1),waiting:=abn (e.rc (aaA st)).kids (abX (e.prog (e.rc (aaA st))) (e.rc (aaA st)).pc).a },())):=by
 unfold aaJ
 try unfold tpI
 try unfold tlI
 simp only [hS.n,hS.a,hS.g,hT,and_self,if_true,atp hT,aml hT,List.set_set,List.length_set]
 have hp':¬ ((aab e.recs (aaA st)).pc<0∨((e.prog (aab e.recs (aaA st))).length:Int)≤(aab e.recs (aaA st)).pc):=hp
 have ha':¬ ((abX (e.prog (aab e.recs (aaA st))) (aab e.recs (aaA st)).pc).a<0∨((aab e.recs (aaA st)).kids.length:Int)≤(abX (e.prog (aab e.recs (aaA st))) (aab e.recs (aaA st)).pc).a):=ha
 show _=some ((false,()),((⟨o,w,st,10,.nil,id,abn (aab e.recs (aaA st)).kids (abX (e.prog (aab e.recs (aaA st))) (aab e.recs (aaA st)).pc).a,lv,wt⟩:RunV MV),EnvP.pr (e.pt 2 (ad9 e.l (aaA st)) (wu (wi (abn (aab e.recs (aaA st)).kids (abX (e.prog (aab e.recs (aaA st))) (aab e.recs (aaA st)).pc).a+1)))) (aaA st) { aab e.recs (aaA st) with pc:=wi ((aab e.recs (aaA st)).pc+1),waiting:=abn (aab e.recs (aaA st)).kids (abX (e.prog (aab e.recs (aaA st))) (aab e.recs (aaA st)).pc).a },()))
 generalize aab e.recs (aaA st)=r at hp' ha' ⊢
 by_cases h1:r.prog<0
 ·rw [afp (.inl h1)] at hp'; simp only [List.length_nil] at hp'; omega
 by_cases h2:(e.c.progs.length:Int)≤r.prog
 ·rw [afp (.inr h2)] at hp'; simp only [List.length_nil] at hp'; omega
 rw [apb h1 h2] at hp' ha' ⊢
 rw [if_neg h1,if_neg h2,if_pos (show 0≤r.prog∧r.prog<(e.c.progs.length:Int) by omega),if_pos (show 0≤r.pc∧r.pc<((atL [] e.c.progs r.prog).length:Int) by omega),if_pos (show 0≤(abX (atL [] e.c.progs r.prog) r.pc).a∧(abX (atL [] e.c.progs r.prog) r.pc).a<(r.kids.length:Int) by omega)]
 rw [aly,bnd,abv,bnd,aac,bnd]
 rfl
theorem aws {α β:Type} {X:Option ((Bool×Unit)×(α×β×Unit))}:(X.bind fun r =>some ((r.1.1,()),(r.2.1,r.2.2.1,())))=X:=by cases X<;>rfl
theorem arp (hS:SOk st) (hT:IsT e (aaA st)) (hc:e.c.tasks=(e.recs.length:Int)) (X:Option ((Bool×Unit)×(RunV MV×EnvP×Unit))) (a b c:Option ((Bool×Unit)×(RunV MV×EnvP×Unit))) :
  (if aaA st<0 then a else if e.c.tasks≤aaA st then b else if (e.recs.length:Int)≤aaA st then c else X)=X:=by
 have h1:=hT.1
 have h2:=hT.2
 rw [if_neg (by omega),if_neg (by omega),if_neg (by omega)]
theorem alr (hS:SOk st) (hT:IsT e (aaA st)) (hc:e.c.tasks=(e.recs.length:Int)) (h:4≤ln∧ln≤8):abo ⟨o0,w,st,ln,m,id,ch,lv,wt⟩ e=abk ⟨o0,w,st,ln,m,id,ch,lv,wt⟩ e:=by
 unfold abo
 try unfold tpI
 try unfold tlI
 simp only [aaw,abg,o0,bnd,hS.n,hS.a,hS.g,if_true,Bool.false_eq_true,if_false,aws,arp hS hT hc]
 rw [if_neg (by omega),if_neg (by omega),if_neg (by omega),if_neg (by omega),if_pos h.1,if_pos h.2]
theorem ajT (hS:SOk st) (hT:IsT e (aaA st)) (hc:e.c.tasks=(e.recs.length:Int)) (h:9≤ln∧ln≤15):abo ⟨o0,w,st,ln,m,id,ch,lv,wt⟩ e=aaJ ⟨o0,w,st,ln,m,id,ch,lv,wt⟩ e:=by
 unfold abo
 try unfold tpI
 try unfold tlI
 simp only [aaw,abg,o0,bnd,hS.n,hS.a,hS.g,if_true,Bool.false_eq_true,if_false,aws,arp hS hT hc]
 rw [if_neg (by omega),if_neg (by omega),if_neg (by omega),if_neg (by omega),if_pos (show 4≤ln by omega),if_neg (by omega),if_pos h.1,if_pos h.2]
theorem ahN (hS:SOk st) (hT:IsT e (aaA st)) (hc:e.c.tasks=(e.recs.length:Int)) (h:16≤ln):abo ⟨o0,w,st,ln,m,id,ch,lv,wt⟩ e=aaq ⟨o0,w,st,ln,m,id,ch,lv,wt⟩ e:=by
 unfold abo
 try unfold tpI
 try unfold tlI
 simp only [aaw,abg,o0,bnd,hS.n,hS.a,hS.g,if_true,Bool.false_eq_true,if_false,aws,arp hS hT hc]
 rw [if_neg (by omega),if_neg (by omega),if_neg (by omega),if_neg (by omega),if_pos (show 4≤ln by omega),if_neg (by omega),if_pos (show 9≤ln by omega),if_neg (by omega)]
theorem aBS (hS:SOk st) (hT:IsT e (aaA st)) (hc:e.c.tasks=(e.recs.length:Int)) {c:Int} (h:afj (e.rc (aaA st)) (e.prog (e.rc (aaA st)))=c) (hR:0≤aaA st∧aaA st<(e.recs.length:Int)) :
  abo ⟨o0,w,st,0,m,id,ch,lv,wt⟩ e=if c=4 then abk ⟨o0,w,st,4,.alloc ⟨o0⟩,id,ch,lv,wt⟩ e else if c=1∨c=2∨c=3 then aaE ⟨o0,w,st,c,m,id,ch,lv,wt⟩ e else if c=9 then aaJ ⟨o0,w,st,c,m,id,ch,lv,wt⟩ e else aaq ⟨o0,w,st,c,m,id,ch,lv,wt⟩ e:=by
 have hch:=aAA (x:=⟨⟨false,0,0⟩,w,st,0,m,id,ch,lv,wt⟩) hS hR
 simp only [h] at hch
 have hv:c=1∨c=16∨c=2∨c=4∨c=3∨c=9:=by
  rw [← h]
  unfold afj
  repeat' split
  all_goals simp
 unfold abo
 try unfold tpI
 try unfold tlI
 simp only [aaw,abg,o0,bnd,hS.n,hS.a,hS.g,if_true,Bool.false_eq_true,if_false,aws,arp hS hT hc,hch,aeL]
 rcases hv with rfl | rfl | rfl | rfl | rfl | rfl<;>simp only [Int.reduceEq,Int.reduceLE,if_true,if_false,or_self,or_true,true_or,false_or,or_false]
end
end
section
open Go Go.RowKit
set_option maxRecDepth 100000
@[reducible] def aHp (l : LayV) (w id lv wt : Int) : RunC → Int × MV
 | .next =>(0,.nil)
 | .s2 s =>(5,.publish (alt id lv s))
 | .s3 s =>(6,.lpush (apA l w lv id s))
 | .s4 s =>(7,.wake (as2 w lv s))
 | .s5 =>(8,.claim ⟨o0,w,id⟩)
 | .j2 =>(10,.nil)
 | .j3 =>(11,.nil)
 | .j4 =>(12,.nil)
 | .j5 s =>(13,.walk (aEl l w lv s))
 | .j6 =>(14,.nil)
 | .j7 =>(15,.nil)
 | .f2 =>(17,.nil)
 | .f3 =>(18,.nil)
 | .f4 s =>(19,.enter (aAh l w wt s))
 | .f5 v s =>(20,.wake (as2 w v s))
 | .f6 =>(21,.claim ⟨o0,w,wt⟩)
@[reducible] def aJk (l : LayV) (w : Int) (r : RunS) : RunV MV :=
 ⟨o0,w,r.stack,(aHp l w r.id r.level r.waiter r.c).1,(aHp l w r.id r.level r.waiter r.c).2,r.id,r.child,r.level,r.waiter⟩
section
variable [Tb] {K:Nat} {e:EnvP} {w:Int}
theorem ahV {l:LayV} {e':EnvP} {st:List Int} {ln id ch lv wt:Int} {m:MV} {c:RunC} (hS:SOk st):aaV RunV.o (aJk l w) ((aam ⟨⟨false,0,0⟩,w,st,ln,m,id,ch,lv,wt⟩).bind fun r =>some ((r.1.1,()),(r.2.1,e',()))) (ag7 ⟨st,id,ch,lv,wt,c⟩ e'):=by
 have h1:=List.length_pos_iff.2 hS.ne
 have h2:=hS.le
 unfold aam ag7
 try simp only [tpI,tlI]
 simp only [tpI,tlI,hS.n,hS.g2,hS.t,if_true,List.length_dropLast,abg,aac,bnd,aci,aa0]
 by_cases hl:st.length=1
 ·rw [if_pos (by omega),if_pos hl]; exact ⟨_,rfl,rfl⟩
 ·rw [if_neg (by omega),if_neg hl]; rfl
theorem aE0 (hK:EOk K e) (hk:K≤100000000) (r:RunS) (hS:SOk r.stack):aaV RunV.o (aJk e.l w) (abo (aJk e.l w r) e) (auB w e r):=by
 have hl:e.evs.length≤999999999:=by have:=hK.ev; omega
 obtain ⟨st,id,ch,lv,wt,c⟩:=r
 have hS:SOk st:=hS
 unfold auB
 by_cases hT:IsT e (aaA st)
 ·have hR:0≤aaA st∧aaA st<(e.recs.length:Int):=⟨hT.1,by have:=hT.2; have:=hK.ct; omega⟩
  have hct:=hK.ct
  have he:∀ (x:RunV MV) (e':EnvP) (_:e'.evs.length≤999999999) (v:Ev),aaG x e' v=some ((),(x,{ e' with evs:=e'.evs++[{ v with worker:=x.worker }] },())):=fun x e' h v =>amB h
  rw [if_neg (fun h =>h hT)]
  unfold adn
  cases c with
  | next =>
   simp only [an4]
   have hkd:(e.rc (aaA st)).kids.length≤999999999:=by have:=arw hR K hK.kd; omega
   have hnx:=fun c h =>aBS (w:=w) (id:=id) (ch:=ch) (lv:=lv) (wt:=wt) (m:=.nil) hS hT hct (c:=c) h hR
   by_cases c1:(e.rc (aaA st)).waiting ≠ -1
   ·rw [if_pos c1]
    rw [hnx 1 (by unfold afj; rw [if_pos c1])]
    simp only [Int.reduceEq,if_false,true_or,if_true]
    rw [aES hS hR]
    rfl
   rw [if_neg c1]
   by_cases c2:(e.rc (aaA st)).pc<0∨((e.prog (e.rc (aaA st))).length:Int)≤(e.rc (aaA st)).pc
   ·rw [if_pos c2]
    rw [hnx 16 (by unfold afj; rw [if_neg c1,if_pos c2])]
    simp only [Int.reduceEq,if_false,or_self]
    simp only [tpI,tlI,aaq,hS.n,hS.a,hS.g,if_true,aeT,abv,aac,bnd]
    rfl
   rw [if_neg c2]
   by_cases c3:(abX (e.prog (e.rc (aaA st))) (e.rc (aaA st)).pc).op=0
   ·rw [if_pos c3]
    rw [hnx 2 (by unfold afj; rw [if_neg c1,if_neg c2,if_pos c3])]
    simp only [Int.reduceEq,if_false,false_or,true_or,or_true,if_true]
    rw [aER hS hR c2]
    rfl
   rw [if_neg c3]
   by_cases c4:(abX (e.prog (e.rc (aaA st))) (e.rc (aaA st)).pc).op=1
   ·rw [if_pos c4]
    rw [hnx 4 (by unfold afj; rw [if_neg c1,if_neg c2,if_neg c3,if_pos c4])]
    obtain ⟨x',h,ho⟩:=auo (e:=e)
    simp only [tpI,tlI,if_true,abk,aeM,bnd,h,ado,Bool.not_true,Bool.false_eq_true,if_false]
    by_cases ci:IsT e (wi (e.gt 0))
    ·rw [if_pos ci] at ho ⊢
     have hv:0≤wi (e.gt 0)∧wi (e.gt 0)<((abN e).recs.length:Int):=⟨ci.1,by have:=ci.2; show _<(e.recs.length:Int); omega⟩
     have ha:=aAZ (e:=abN e) (o:=o0) (w:=w) (id:=id) (ch:=ch) (lv:=lv) (wt:=wt) (m:=.alloc x') hS hR c2 hkd (wi (e.gt 0)) hv
     simp only [ho]
     rw [ha]
     rfl
    ·rw [if_neg ci] at ho ⊢
     have ha:=aya (e:=abN e) (o:=o0) (w:=w) (id:=id) (ch:=ch) (lv:=lv) (wt:=wt) (m:=.alloc x') hS hR c2 hl hkd 0
     simp only [ho]
     rw [ha]
     rfl
   rw [if_neg c4]
   by_cases c5:(abX (e.prog (e.rc (aaA st))) (e.rc (aaA st)).pc).a<0∨((e.rc (aaA st)).kids.length:Int)≤(abX (e.prog (e.rc (aaA st))) (e.rc (aaA st)).pc).a∨abn (e.rc (aaA st)).kids (abX (e.prog (e.rc (aaA st))) (e.rc (aaA st)).pc).a=-1
   ·rw [if_pos c5]
    rw [hnx 3 (by unfold afj; rw [if_neg c1,if_neg c2,if_neg c3,if_neg c4,if_pos c5])]
    simp only [Int.reduceEq,if_false,false_or,or_true,if_true]
    rw [aEQ hS hR]
    rfl
   ·rw [if_neg c5]
    rw [hnx 9 (by unfold afj; rw [if_neg c1,if_neg c2,if_neg c3,if_neg c4,if_neg c5])]
    simp only [Int.reduceEq,if_false,or_self,if_true]
    rw [aJZ hS hR c2 (fun h =>c5 (h.elim .inl fun h =>.inr (.inl h)))]
    rfl
  | s2 s =>
   have h:=au0 (e:=e) (t:=id) (v:=lv) s
   have hn:=aqG (e:=e) (t:=id) (v:=lv) s
   simp only [alr hS hT hct (show (4:Int)≤5∧(5:Int)≤8 by decide)]
   revert h hn
   simp only [tpI,tlI,abk,aeM,bnd]
   rcases aeS id lv e s with ⟨r | ⟨c,y⟩,e'⟩<;>intro h hn
   ·simp only [aaV] at h
    simp only [h,bnd,Bool.not_false,if_true]
    rfl
   ·simp only [aaV] at h
    obtain ⟨x',h,ho⟩:=h
    have hl':e'.evs.length≤999999999:=by have h1:e'.evs.length≤e.evs.length+0:=hn.ev; have:=hK.ev; omega
    simp only [tpI,tlI,h,ho,ado,bnd,Bool.not_true,Bool.false_eq_true,if_false,if_true,Int.reduceEq,hS.n,hS.a,hS.g,he _ e' hl',acA,aac]
    rfl
  | s3 s =>
   have h:=ajq (w:=w) (v:=lv) (x:=id) hK s
   simp only [alr hS hT hct (show (4:Int)≤6∧(6:Int)≤8 by decide)]
   revert h
   simp only [tpI,tlI,abk,aeM,bnd]
   rcases abw w lv id e s with ⟨r | ⟨c,y⟩,e'⟩<;>intro h
   ·simp only [aaV] at h
    simp only [h,bnd,Bool.not_false,if_true]
    rfl
   ·simp only [aaV] at h
    obtain ⟨x',h,ho⟩:=h
    simp only [tpI,tlI,h,ho,ado,bnd,Bool.not_true,Bool.false_eq_true,if_false,if_true,Int.reduceEq,acy,acV,aac]
    by_cases hc:c=3
    ·simp only [hc,if_true]; rfl
    ·simp only [hc,if_false]; rfl
  | s4 s =>
   have h:=ak6 (e:=e) (w:=w) (v:=lv) hl s
   simp only [alr hS hT hct (show (4:Int)≤7∧(7:Int)≤8 by decide)]
   revert h
   simp only [tpI,tlI,abk,aeM,bnd]
   rcases adN w lv e s with ⟨r | ⟨c,y⟩,e'⟩<;>intro h
   ·simp only [aaV] at h
    simp only [h,bnd,Bool.not_false,if_true]
    rfl
   ·simp only [aaV] at h
    obtain ⟨x',h,ho⟩:=h
    simp only [tpI,tlI,h,ho,ado,bnd,Bool.not_true,Bool.false_eq_true,if_false,if_true,Int.reduceEq,aac]
    rfl
  | s5 =>
   obtain ⟨x',h,ho⟩:=amd (w:=w) (t:=id) hl hK.st
   simp only [alr hS hT hct (show (4:Int)≤8∧(8:Int)≤8 by decide)]
   simp only [tpI,tlI,abk,aeM,bnd,h,ado,Bool.not_true,Bool.false_eq_true,if_false,if_true,Int.reduceEq,aac]
   have hsl:((st.length+([id]:List Int).length:Nat):Int)<1000000000000:=by
    have h2:st.length≤999999999:=hS.le
    clear hR hct hl hk hK
    trace_state
    rw [List.length_singleton]
    omega
   rcases Bool.eq_false_or_eq_true (acN id e) with hc | hc
   ·simp only [hc,if_true] at ho ⊢
    simp only [ho,if_true,hsl]
    rfl
   ·simp only [hc,Bool.false_eq_true,if_false] at ho ⊢
    simp only [ho,Int.reduceEq,if_false]
    rfl
  | j2 =>
   simp only [tpI,tlI,ajT hS hT hct (show (9:Int)≤10∧(10:Int)≤15 by decide),aaJ,hS.n,hS.a,hS.g,if_true,Int.reduceEq,if_false,aeT,abv,aac,bnd]
   rfl
  | j3 =>
   simp only [tpI,tlI,ajT hS hT hct (show (9:Int)≤11∧(11:Int)≤15 by decide),aaJ,hS.n,hS.a,hS.g,if_true,Int.reduceEq,if_false,arE,ajp,aac,he _ { e with m:=e.m.cas (acB e.l ch) 0 (wu (wi (aaA st+1))) } hl,bnd]
   exact aaV.iteN (fun _ =>rfl) fun _ =>rfl
  | j4 =>
   simp only [tpI,tlI,ajT hS hT hct (show (9:Int)≤12∧(12:Int)≤15 by decide),aaJ,hS.n,hS.a,hS.g,if_true,Int.reduceEq,if_false,afD,abB,ajH,aac,bnd]
   rfl
  | j5 s =>
   have h:=aBn (w:=w) (v:=lv) hK hk s
   have hn:=aym (e:=e) (w:=w) (v:=lv) s
   simp only [ajT hS hT hct (show (9:Int)≤13∧(13:Int)≤15 by decide)]
   revert h hn
   simp only [tpI,tlI,aaJ,hS.n,hS.a,hS.g,if_true,Int.reduceEq,if_false,aeM,bnd]
   rcases ad3 w lv e s with ⟨r | ⟨c,y⟩,e'⟩<;>intro h hn
   ·simp only [aaV] at h
    simp only [h,bnd,Bool.not_false,if_true]
    rfl
   ·simp only [aaV] at h
    obtain ⟨x',h,ho⟩:=h
    have hl':e'.evs.length≤999999999:=by have h1:e'.evs.length≤e.evs.length+1:=hn.ev; have:=hK.ev; omega
    simp only [h,bnd,Bool.not_true,Bool.false_eq_true,if_false,he _ e' hl']
    exact ahV hS
  | j6 =>
   simp only [tpI,tlI,ajT hS hT hct (show (9:Int)≤14∧(14:Int)≤15 by decide),aaJ,hS.n,hS.a,hS.g,if_true,Int.reduceEq,if_false,aeT,abv,aac,bnd]
   rfl
  | j7 =>
   simp only [tpI,tlI,ajT hS hT hct (show (9:Int)≤15∧(15:Int)≤15 by decide),aaJ,hS.n,hS.a,hS.g,hR,and_self,if_true,Int.reduceEq,if_false,aly,abv,aac,bnd]
   have he2:∀ (x:RunV MV) (m':MemV) (rs:List RecP) (v:Ev),aaG x { e with m:=m',recs:=rs } v=some ((),(x,{ e with m:=m',recs:=rs,evs:=e.evs++[{ v with worker:=x.worker }] },())):=fun x m' rs v =>amB (e:={ e with m:=m',recs:=rs }) hl
   rw [he2,bnd]
   rfl
  | f2 =>
   simp only [tpI,tlI,ahN hS hT hct (show (16:Int)≤17 by decide),aaq,hS.n,hS.a,hS.g,if_true,Int.reduceEq,if_false,arE,ajp,aac,he _ { e with m:=e.m.cas (acB e.l (aaA st)) 0 4294967296 } hl,bnd]
   refine aaV.ite (fun _ =>?_) fun _ =>rfl
   exact ahV hS
  | f3 =>
   simp only [tpI,tlI,ahN hS hT hct (show (16:Int)≤18 by decide),aaq,hS.n,hS.a,hS.g,if_true,Int.reduceEq,if_false,arE,abB,aac,ahB,bnd]
   by_cases h1:wi (wi (e.m.gt (acB e.l (aaA st)))-1)<0
   ·rw [if_pos h1,if_neg (show ¬ IsT e (wi (wi (e.m.gt (acB e.l (aaA st)))-1)) from fun h =>by have:=h.1; omega)]
    exact ahV hS
   by_cases h2:e.c.tasks≤wi (wi (e.m.gt (acB e.l (aaA st)))-1)
   ·rw [if_neg h1,if_pos h2,if_neg (show ¬ IsT e (wi (wi (e.m.gt (acB e.l (aaA st)))-1)) from fun h =>by have:=h.2; omega)]
    exact ahV hS
   ·rw [if_neg h1,if_neg h2,if_pos (show IsT e (wi (wi (e.m.gt (acB e.l (aaA st)))-1)) from ⟨by omega,by omega⟩)]
    rfl
  | f4 s =>
   have h:=aAf (w:=w) (t:=wt) hK s
   simp only [ahN hS hT hct (show (16:Int)≤19 by decide)]
   revert h
   simp only [tpI,tlI,aaq,hS.n,hS.a,hS.g,if_true,Int.reduceEq,if_false,aeM,bnd]
   rcases adg w wt e s with ⟨r | ⟨c,y⟩,e'⟩<;>intro h
   ·simp only [aaV] at h
    simp only [h,bnd,Bool.not_false,if_true]
    rfl
   ·simp only [aaV] at h
    obtain ⟨x',h,ho⟩:=h
    simp only [tpI,tlI,h,ho,ado,bnd,Bool.not_true,Bool.false_eq_true,if_false,if_true,Int.reduceEq,acy,acV,aac]
    by_cases hc:c=3
    ·simp only [hc,if_true]; rfl
    ·simp only [hc,if_false]; rfl
  | f5 v s =>
   have h:=ak6 (e:=e) (w:=w) (v:=v) hl s
   simp only [ahN hS hT hct (show (16:Int)≤20 by decide)]
   revert h
   simp only [tpI,tlI,aaq,hS.n,hS.a,hS.g,if_true,Int.reduceEq,if_false,aeM,bnd]
   rcases adN w v e s with ⟨r | ⟨c,y⟩,e'⟩<;>intro h
   ·simp only [aaV] at h
    simp only [h,bnd,Bool.not_false,if_true]
    rfl
   ·simp only [aaV] at h
    obtain ⟨x',h,ho⟩:=h
    simp only [h,ho,ado,bnd,Bool.not_true,Bool.false_eq_true,if_false]
    exact ahV hS
  | f6 =>
   obtain ⟨x',h,ho⟩:=amd (w:=w) (t:=wt) hl hK.st
   simp only [ahN hS hT hct (show (16:Int)≤21 by decide)]
   simp only [tpI,tlI,aaq,hS.n,hS.a,hS.g,hS.s,aeM,bnd,h,ado,Bool.not_true,Bool.false_eq_true,if_false,if_true,Int.reduceEq,aac]
   rcases Bool.eq_false_or_eq_true (acN wt e) with hc | hc
   ·simp only [hc,if_true] at ho ⊢
    simp only [ho,if_true]
    rfl
   ·simp only [hc,Bool.false_eq_true,if_false] at ho ⊢
    simp only [ho,Int.reduceEq,if_false]
    exact ahV hS
 ·rw [if_pos hT]
  have hb:aaA st<0∨e.c.tasks≤aaA st:=by
   unfold IsT at hT
   omega
  simp only [tpI,tlI,abo,aaw,abg,o0,bnd,hS.n,hS.a,hS.g,if_true,Bool.false_eq_true,if_false]
  rcases hb with hb | hb
  ·rw [if_pos hb]; exact ⟨_,rfl,rfl⟩
  ·by_cases h0:aaA st<0
   ·rw [if_pos h0]; exact ⟨_,rfl,rfl⟩
   ·rw [if_neg h0,if_pos hb]; exact ⟨_,rfl,rfl⟩
end
@[reducible] def aDD (l : LayV) (w vi lv x : Int) : WorkC → Int × MV
 | .top =>(0,.nil)
 | .t1 t s =>(1,.sweep (agC l w t s))
 | .t2 s =>(2,.take (aEs l w s))
 | .t3 s =>(3,.drain (axi l w s))
 | .t4 s =>(4,.probe (alw w s))
 | .t5 s =>(5,.steal (awe (aat l vi lv) s))
 | .t6 =>(6,.claim ⟨o0,w,x⟩)
 | .t7 s =>(7,.run (aJk l w s))
 | .t8 s =>(8,.sleep (as9 w s))
 | .t9 s =>(9,.reset (atl (aaF l vi) lv (aat l vi lv) s))
@[reducible] def ahi (l : LayV) (w : Int) (k : WorkS) : WorkerV MV :=
 ⟨w,k.cursor,(aDD l w k.victim k.level k.x k.c).1,(aDD l w k.victim k.level k.x k.c).2,k.victim,k.level,k.x⟩
def aJg (K:Nat) (r:RunS):Prop:=r.stack≠[]∧r.stack.length≤K
def ahg (K:Nat) (n:Int) (k:WorkS):Prop:=match k.c with
 | .t3 s =>asS s
 | .t4 s =>ann n s
 | .t7 s =>aJg K s
 | _ =>True
section
variable [Tb] {K:Nat} {e:EnvP} {w:Int}
theorem alS {j:Nat} {e':EnvP} {r:RunS} (h:Stp j e e'):Stp j e (ag7 r e').2:=h
theorem aFh {a v t:Int} {r:RecP} (hr:∀ K,(∀ r∈e.recs,r.kids.length≤K)→r.kids.length≤K+1):Stp 0 e ((e.pt 2 a v).pr t r):=Stp.pr (Stp.pt (by decide)) hr
theorem aAq {x:RecP} {i:Ins}:(asp x i).kids=x.kids:=by
 unfold asp
 repeat' split
 all_goals rfl
theorem aHn (hK:EOk K e) (r:RunS):Stp 2 e (auB w e r).2:=by
 obtain ⟨st,id,ch,lv,wt,c⟩:=r
 unfold auB
 by_cases hT:IsT e (aaA st)
 ·have hR:0≤aaA st∧aaA st<(e.recs.length:Int):=⟨hT.1,by have:=hT.2; have:=hK.ct; omega⟩
  have hkid:∀ K,(∀ r∈e.recs,r.kids.length≤K)→(e.rc (aaA st)).kids.length≤K+1:=fun K h =>Nat.le_succ_of_le (arw hR K h)
  have hkid1:∀ v:Int,∀ K,(∀ r∈e.recs,r.kids.length≤K)→((e.rc (aaA st)).kids++[v]).length≤K+1:=fun v K h =>by
   have:=arw hR K h
   rw [List.length_append,List.length_singleton]; omega
  rw [if_neg (fun h =>h hT)]
  cases c with
  | next =>
   simp only [adn,an4]
   split
   ·exact Stp.le (aFh hkid) (Nat.zero_le _)
   split
   ·exact Stp.le (.pt (by decide)) (by decide)
   split
   ·exact Stp.le (Stp.pr Stp.refl fun K h =>by rw [aAq]; exact hkid K h) (Nat.zero_le _)
   split
   ·split
    ·exact Stp.le (Stp.pr (Stp.pr aoC (hkid1 _)) fun K h =>Nat.zero_le _) (Nat.zero_le _)
    ·exact Stp.le (Stp.em (Stp.pr aoC (hkid1 _))) (Nat.le_succ 1)
   split
   ·exact Stp.le (Stp.pr Stp.refl hkid) (Nat.zero_le _)
   ·exact Stp.le (aFh hkid) (Nat.zero_le _)
  | s2 s =>
   have h:=aqG (e:=e) (t:=id) (v:=lv) s
   revert h
   simp only [adn]
   rcases aeS id lv e s with ⟨r | ⟨c,y⟩,e'⟩<;>intro h
   ·exact h.le (by decide)
   ·exact h.em.le (by decide)
  | s3 s =>
   have h:=agl (e:=e) (w:=w) (v:=lv) (x:=id) s
   revert h
   simp only [adn]
   rcases abw w lv id e s with ⟨r | ⟨c,y⟩,e'⟩<;>intro h<;>exact h.le (by decide)
  | s4 s =>
   have h:=aoJ (e:=e) (w:=w) (v:=lv) s
   revert h
   simp only [adn]
   rcases adN w lv e s with ⟨r | ⟨c,y⟩,e'⟩<;>intro h<;>exact h.le (by decide)
  | s5 =>exact (ame (w:=w) (t:=id) hK.st).le (by decide)
  | j2 =>exact Stp.le (.pt (by decide)) (by decide)
  | j3 =>
   simp only [adn]
   split
   ·exact Stp.cas.em.le (by decide)
   ·exact Stp.cas.le (by decide)
  | j4 =>exact Stp.lk.le (by decide)
  | j5 s =>
   have h:=aym (e:=e) (w:=w) (v:=lv) s
   revert h
   simp only [adn]
   rcases ad3 w lv e s with ⟨r | ⟨c,y⟩,e'⟩<;>intro h
   ·exact h.le (by decide)
   ·exact alS h.em
  | j6 =>exact Stp.le (.pt (by decide)) (by decide)
  | j7 =>exact Stp.le (Stp.em (aFh hkid)) (Nat.le_succ 1)
  | f2 =>
   simp only [adn]
   split
   ·exact alS (Stp.cas.em.le (by decide))
   ·exact Stp.cas.em.le (by decide)
  | f3 =>
   simp only [adn]
   split
   ·exact Stp.lk.le (by decide)
   ·exact alS (Stp.lk.le (by decide))
  | f4 s =>
   have h:=aCT (e:=e) (w:=w) (t:=wt) s
   revert h
   simp only [adn]
   rcases adg w wt e s with ⟨r | ⟨c,y⟩,e'⟩<;>intro h<;>exact h.le (by decide)
  | f5 v s =>
   have h:=aoJ (e:=e) (w:=w) (v:=v) s
   revert h
   simp only [adn]
   rcases adN w v e s with ⟨r | ⟨c,y⟩,e'⟩<;>intro h
   ·exact h.le (by decide)
   ·exact alS (h.le (by decide))
  | f6 =>
   simp only [adn]
   split
   ·exact (ame (w:=w) (t:=wt) hK.st).le (by decide)
   ·exact alS ((ame (w:=w) (t:=wt) hK.st).le (by decide))
 ·rw [if_pos hT]; exact Stp.refl.le (by decide)
theorem alR {r r':RunS} {e e':EnvP} (hr:r.stack≠[]) (h:ag7 r e=(.go r',e')):r'.stack≠[]∧r'.stack.length≤r.stack.length+1:=by
 have h1:=List.length_pos_iff.2 hr
 unfold ag7 at h
 split at h
 ·cases h
 ·cases h
  refine ⟨List.length_pos_iff.1 ?_,?_⟩<;>simp only [List.length_dropLast]<;>omega
theorem aHm {r r':RunS} {e':EnvP} (hr:r.stack≠[]) (h:auB w e r=(.go r',e')):r'.stack≠[]∧r'.stack.length≤r.stack.length+1:=by
 obtain ⟨st,id,ch,lv,wt,c⟩:=r
 have hr:st≠[]:=hr
 have hz:st≠[]∧st.length≤st.length+1:=⟨hr,Nat.le_succ _⟩
 unfold auB at h
 split at h
 ·cases h
 cases c with
 | next =>
  simp only [adn,an4] at h
  repeat' split at h
  all_goals cases h; exact hz
 | s2 s =>
  simp only [adn] at h
  split at h<;>cases h<;>exact hz
 | s3 s =>
  simp only [adn] at h
  split at h<;>cases h<;>exact hz
 | s4 s =>
  simp only [adn] at h
  split at h<;>cases h<;>exact hz
 | s5 =>
  simp only [adn] at h
  cases h
  split
  ·refine ⟨by simp,?_⟩
   simp only [List.length_append,List.length_singleton]; omega
  ·exact hz
 | j2 =>cases h; exact hz
 | j3 =>
  simp only [adn] at h
  split at h<;>cases h<;>exact hz
 | j4 =>cases h; exact hz
 | j5 s =>
  simp only [adn] at h
  split at h
  ·cases h; exact hz
  ·exact alR hr h
 | j6 =>cases h; exact hz
 | j7 =>cases h; exact hz
 | f2 =>
  simp only [adn] at h
  split at h
  ·exact alR hr h
  ·cases h; exact hz
 | f3 =>
  simp only [adn] at h
  split at h
  ·cases h; exact hz
  ·exact alR (r:=⟨st,id,ch,lv,wi (wi (e.gt (acB e.l (aaA st)))-1),.f3⟩) hr h
 | f4 s =>
  simp only [adn] at h
  split at h<;>cases h<;>exact hz
 | f5 v s =>
  simp only [adn] at h
  split at h
  ·cases h; exact hz
  ·exact alR hr h
 | f6 =>
  simp only [adn] at h
  split at h
  ·cases h
   refine ⟨by simp,?_⟩
   simp only [List.length_append,List.length_singleton,List.length_dropLast]; omega
  ·exact alR hr h
theorem aBF {cur vi lv x:Int}:aah ⟨w,cur,0,.nil,vi,lv,x⟩ e=aah (ahi e.l w ⟨cur,vi,lv,x,abH w e ⟨cur,vi,lv,x,.top⟩⟩) e:=by
 unfold abH
 by_cases ha:e.c.age=0
 ·simp only [ha,if_true,aah,ad2,aaf,afm,afG,bnd,if_false,Int.reduceEq,axG,Int.reduceLE,o0]
 ·simp only [ha,if_false,aah,ad2,aaf,anl,amR,bnd,if_true,Int.reduceEq,Int.reduceLE,o0]
def axC (l:LayV) (w:Int) (res:Option ((Bool×Unit)×(WorkerV MV×EnvP×Unit))) (r:WorkS×EnvP):Prop:=res=some ((false,()),(ahi l w r.1,r.2,()))
theorem axC.ite {l:LayV} {c:Prop} [Decidable c] {a b:Option ((Bool×Unit)×(WorkerV MV×EnvP×Unit))} {r s:WorkS×EnvP} (h1:c→axC l w a r) (h2:¬ c→axC l w b s):axC l w (if c then a else b) (if c then r else s):=by
 by_cases h:c
 ·rw [if_pos h,if_pos h]; exact h1 h
 ·rw [if_neg h,if_neg h]; exact h2 h
theorem aoG {c:Prop} [Decidable c] {x y:WorkS} {e:EnvP}:((if c then x else y),e)=if c then (x,e) else (y,e):=by split<;>rfl
theorem asY (hK:EOk K e) (hk:K≤100000000) (k:WorkS) (hc:k.c≠.top) (hW:ahg K (abt e) k):axC e.l w (aah (ahi e.l w k) e) (abe w e k):=by
 have hl:e.evs.length≤999999999:=by have:=hK.ev; omega
 obtain ⟨cur,vi,lv,x,c⟩:=k
 cases c with
 | top =>exact absurd rfl hc
 | t1 t s =>
  have h:=ayt (w:=w) (t:=t) hK hk s
  revert h
  simp only [abe,abH,aah,adI,bnd,Int.reduceEq,if_false]
  rcases aba w t e s with ⟨r | ⟨c,y⟩,e'⟩<;>intro h
  ·simp only [aaV] at h
   simp only [h,bnd,Bool.not_false,if_true]
   rfl
  ·simp only [aaV] at h
   obtain ⟨x',h,ho⟩:=h
   simp only [h,ho,aby,ab0,aaf,afm,afG,bnd,Bool.not_true,Bool.false_eq_true,if_true,if_false,Int.reduceEq,Int.reduceLE]
   rfl
 | t2 s =>
  have h:=aBv (w:=w) hK hk s
  revert h
  simp only [abe,abH,aah,adI,bnd,Int.reduceEq,if_false]
  rcases ai5 w e s with ⟨r | ⟨c,y⟩,e'⟩<;>intro h
  ·simp only [aaV] at h
   simp only [h,bnd,Bool.not_false,if_true]
   rfl
  ·simp only [aaV] at h
   obtain ⟨x',h,ho⟩:=h
   simp only [tpI,tlI,h,ho,aby,ab0,ada,aaf,alq,aj7,bnd,Bool.not_true,Bool.false_eq_true,if_true,if_false,Int.reduceEq,Int.reduceLE,aci,aoG]
   exact axC.ite (fun _ =>rfl) fun _ =>rfl
 | t3 s =>
  have h:=aAi (w:=w) hK hk s hW
  revert h
  simp only [abe,abH,aah,adI,bnd,Int.reduceEq,if_false]
  rcases aa3 w e s with ⟨r | ⟨c,y⟩,e'⟩<;>intro h
  ·simp only [aaV] at h
   simp only [h,bnd,Bool.not_false,if_true]
   rfl
  ·simp only [aaV] at h
   obtain ⟨x',h,ho⟩:=h
   simp only [h,ho,aby,ab0,acx,abd,acy,afm,afG,adx,amN,aaf,bnd,Bool.not_true,Bool.false_eq_true,if_true,if_false,Int.reduceEq,Int.reduceLE,aci,aoG]
   refine axC.ite (fun _ =>rfl) fun _ =>axC.ite (fun _ =>rfl) fun _ =>?_
   unfold an8
   by_cases h1:e'.c.workers=1
   ·rw [if_pos h1,if_pos h1]; rfl
   ·rw [if_neg h1,if_neg h1]; rfl
 | t4 s =>
  have h:=ay4 (w:=w) hK.wk s hW
  have hn:=aww (e:=e) (w:=w) s
  revert h hn
  simp only [abe,abH,aah,adI,bnd,Int.reduceEq,if_false]
  rcases aiL w e s with ⟨r | ⟨c,y⟩,e'⟩<;>intro h hn
  ·simp only [aaV] at h
   simp only [h,bnd,Bool.not_false,if_true]
   rfl
  ·simp only [aaV] at h
   obtain ⟨x',h,ho⟩:=h
   have hnl:e'.l=e.l:=hn.l
   simp only [h,ho,aby,ab0,adB,adx,ajm,aaf,bnd,Bool.not_true,Bool.false_eq_true,if_true,if_false,Int.reduceEq,Int.reduceLE,aci,aoG,hnl]
   exact axC.ite (fun _ =>rfl) fun _ =>rfl
 | t5 s =>
  have h:=ayx (e:=e) (hK.q vi lv) s
  have hn:=awd (e:=e) (q:=aat e.l vi lv) s
  revert h hn
  simp only [abe,abH,aah,adI,bnd,Int.reduceEq,if_false]
  rcases agD (aat e.l vi lv) e s with ⟨r | ⟨c,y⟩,e'⟩<;>intro h hn
  ·simp only [aaV] at h
   simp only [h,bnd,Bool.not_false,if_true]
   rfl
  ·simp only [aaV] at h
   obtain ⟨x',h,ho⟩:=h
   have hnl:e'.l=e.l:=hn.l
   have hl':e'.evs.length≤999999999:=by have h1:e'.evs.length≤e.evs.length+0:=hn.ev; have:=hK.ev; omega
   simp only [h,ho,aby,adG,acx,aaW,acy,agT,aeD,ajm,ace hl',aaf,bnd,Bool.not_true,Bool.false_eq_true,if_true,if_false,Int.reduceEq,Int.reduceLE,aci,hnl]
   exact axC.ite (fun _ =>by simp only [axC,EnvP.em,hnl]) fun _ =>axC.ite (fun _ =>rfl) fun _ =>rfl
 | t6 =>
  obtain ⟨x',h,ho⟩:=amd (w:=w) (t:=x) hl hK.st
  simp only [tpI,tlI,abe,abH,aah,adI,h,aby,ada,aaW,aaf,alq,bnd,Bool.not_true,Bool.false_eq_true,if_true,if_false,Int.reduceEq,Int.reduceLE]
  rcases Bool.eq_false_or_eq_true (acN x e) with hc | hc
  ·simp only [hc,if_true] at ho ⊢
   simp only [ho,if_true]
   rfl
  ·simp only [hc,Bool.false_eq_true,if_false] at ho ⊢
   simp only [ho,Int.reduceEq,if_false]
   rfl
 | t7 s =>
  have h:=aE0 (w:=w) hK hk s ⟨hW.1,by have:=hW.2; omega⟩
  revert h
  simp only [abe,abH,aah,adI,bnd,Int.reduceEq,if_false]
  rcases auB w e s with ⟨r | ⟨c,y⟩,e'⟩<;>intro h
  ·simp only [aaV] at h
   simp only [h,bnd,Bool.not_false,if_true]
   rfl
  ·simp only [aaV] at h
   obtain ⟨x',h,ho⟩:=h
   simp only [h,ho,aby,aaW,bnd,Bool.not_true,Bool.false_eq_true,if_true,if_false,Int.reduceEq,Int.reduceLE]
   rfl
 | t8 s =>
  have h:=ayF (w:=w) hl s
  revert h
  simp only [abe,abH,aah,adI,bnd,Int.reduceEq,if_false]
  rcases ac5 w e s with ⟨r | ⟨c,y⟩,e'⟩<;>intro h
  ·simp only [aaV] at h
   simp only [h,bnd,Bool.not_false,if_true]
   rfl
  ·simp only [aaV] at h
   obtain ⟨x',h,ho⟩:=h
   simp only [h,ho,aby,aaW,bnd,Bool.not_true,Bool.false_eq_true,if_true,if_false,Int.reduceEq,Int.reduceLE]
   rfl
 | t9 s =>
  have h:=atj (e:=e) (a:=aaF e.l vi) (b:=lv) (q:=aat e.l vi lv) s
  revert h
  simp only [abe,abH,aah,adI,bnd,Int.reduceEq,if_false]
  rcases aeB (aaF e.l vi) lv (aat e.l vi lv) e s with ⟨r | ⟨c,y⟩,e'⟩<;>intro h
  ·simp only [aaV] at h
   simp only [h,bnd,Bool.not_false,if_true]
   rfl
  ·simp only [aaV] at h
   obtain ⟨x',h,ho⟩:=h
   simp only [h,ho,aby,aaW,bnd,Bool.not_true,Bool.false_eq_true,if_true,if_false,Int.reduceEq,Int.reduceLE]
   rfl
theorem aoI {k:WorkS}:abH w e k≠.top:=by
 unfold abH
 split
 ·split<;>intro h<;>cases h
 ·rename_i h
  intro h2
  exact h h2
theorem av1 (hK:EOk K e) (hk:K≤100000000) (k:WorkS) (hW:ahg K (abt e) k):axC e.l w (aah (ahi e.l w k) e) (abe w e k):=by
 obtain ⟨cur,vi,lv,x,c⟩:=k
 cases c with
 | top =>
  have h1:=asY (w:=w) hK hk ⟨cur,vi,lv,x,abH w e ⟨cur,vi,lv,x,.top⟩⟩ (show abH w e ⟨cur,vi,lv,x,.top⟩≠.top from aoI) (by
   unfold abH
   simp only
   split<;>trivial)
  have h2:abe w e ⟨cur,vi,lv,x,abH w e ⟨cur,vi,lv,x,.top⟩⟩=abe w e ⟨cur,vi,lv,x,.top⟩:=by
   unfold abH
   simp only
   by_cases ha:e.c.age=0
   ·simp only [abe,abH,ha,if_true]
   ·simp only [abe,abH,ha,if_false]
  rw [h2] at h1
  unfold axC at h1 ⊢
  rw [← h1]
  exact aBF
 | _ =>exact asY hK hk _ (fun h =>by cases h) hW
end
end
end Go.Proofs.YtidhehdanppcoaaGreat
