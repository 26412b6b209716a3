/- The program's machines do what was said plainly,2: probing. What a step of the program's machines leaves of the environment: at most one access,few events,records of the same number. The program's machines do what was said plainly,3: the machines that run others inside. The program's machines do what was said plainly: a sweep. The program's machines do what was said plainly,4: a drain. The program's machines do what was said plainly,5: running a task: parts. The program's machines do what was said plainly,6: running a task: lines. The program's machines do what was said plainly,7: running a task. The program's machines do what was said plainly,8: workers. -/
import Derived.Test.YteapeojalliebaaGreatIzal
set_option linter.all false
namespace Go.Proofs.YteapeojalliebaaGreat
section
open Go Go.RowKit
set_option maxRecDepth 100000
section
variable {e:EnvP}
theorem aAp {x:ProbeV} {n:Int} (hn:1≤n):aeS x n=some ((decide (n≤aoa x.worker n x.start x.next),()),({ x with next:=aoa x.worker n x.start x.next },())):=by
 unfold aeS aoa
 have h0:n≠0:=by omega
 by_cases h:x.next<n
 ·by_cases h2:Int.tmod (wi (x.start+x.next)) n=x.worker
  ·simp only [h,h0,h2,ne_eq,not_false_eq_true,if_true,decide_true,Option.bind_some,and_self]
  ·simp only [h,h0,h2,ne_eq,not_false_eq_true,if_true,decide_false,Option.bind_some,and_false,if_false,Bool.false_eq_true]
 ·simp only [h,false_and,if_false,Option.bind_some,Bool.false_eq_true]
theorem awJ (h:1≤e.c.workers):1≤ab9 e∧ab9 e≤16:=by
 unfold ab9
 split<;>omega
theorem azx {a n:Int} (hn:1≤n) (ha:0≤a):0≤Int.tmod a n∧Int.tmod a n<n:=by
 rw [Int.tmod_eq_emod_of_nonneg ha]
 exact ⟨Int.emod_nonneg _ (by omega),Int.emod_lt_of_pos _ (by omega)⟩
theorem aAn {w s:Int} {n:Int} (hn:1≤n∧n≤16) (hs:0≤s∧s≤100) (st:Int) (hst:atp st n=s) (x:ProbeV) (hx:x.start=st) (F:(Int×Int×Int×ProbeV×Unit→Option (Int×Int×Int×ProbeV×Unit))→Int×Int×Int×ProbeV×Unit→Option (Int×Int×Int×ProbeV×Unit))
  (hF:∀ self a b i,0≤i→i≤16→F self (a,b,i,x,())=if i<n then (if Int.tmod (wi (s+i)) n≠w∧b<atz (x.bm.at (Int.tmod (wi (s+i)) n)) then self (Int.tmod (wi (s+i)) n,atz (x.bm.at (Int.tmod (wi (s+i)) n)),wi (i+1),x,()) else self (a,b,wi (i+1),x,())) else some (a,b,i,x,())) :
  ∀ (k fuel:Nat) (i a b:Int),0≤i→(i+(k:Int)=n)→k<fuel→lpF F fuel (a,b,i,x,())=some ((ayX w n s x.bm k i (a,b)).1,(ayX w n s x.bm k i (a,b)).2,n,x,()):=by
 intro k
 induction k with
 | zero =>
  intro fuel i a b h0 hi hf
  obtain ⟨fuel,rfl⟩:∃ f,fuel=f+1:=⟨fuel-1,by omega⟩
  show F (lpF F fuel) _=_
  rw [hF _ _ _ _ h0 (by omega),if_neg (by omega)]
  have:i=n:=by omega
  subst this
  rfl
 | succ k ih =>
  intro fuel i a b h0 hi hf
  obtain ⟨fuel,rfl⟩:∃ f,fuel=f+1:=⟨fuel-1,by omega⟩
  show F (lpF F fuel) _=_
  rw [hF _ _ _ _ h0 (by omega),if_pos (by omega)]
  have e1:wi (i+1)=i+1:=aaC (aai (by omega))
  rw [e1]
  unfold ayX
  split
  ·exact ih fuel (i+1) _ _ (by omega) (by omega) (by omega)
  ·exact ih fuel (i+1) _ _ (by omega) (by omega) (by omega)
theorem aaV.bind {σ X α:Type} {og:X→OutV} {mk:σ→X} {r:Rs σ×EnvP} {A:Option α} {f:α→Option ((Bool×Unit)×(X×EnvP×Unit))} {z:α} (h:A=some z) (h2:aaV og mk (f z) r):aaV og mk (A.bind f) r:=by rw [h]; exact h2
theorem aB0 {α β:Type} {A:Option α} {f:α→Option β} {z:α} (h:A=some z):A.bind f=f z:=by rw [h]; rfl
theorem aaV.ite' {σ X:Type} {og:X→OutV} {mk:σ→X} {a b:Option ((Bool×Unit)×(X×EnvP×Unit))} {r s:Rs σ×EnvP} {c:Prop} [Decidable c] (h1:c→aaV og mk b r) (h2:¬ c→aaV og mk a s):aaV og mk (if (!decide c)=true then a else b) (if c then r else s):=by
 by_cases h:c
 ·rw [if_pos h,decide_eq_true h]; exact h1 h
 ·rw [if_neg h,decide_eq_false h]; exact h2 h
def aoI (n:Int):ProbeS→Prop
 | .new =>True
 | .run s i _ =>(0≤s∧s<n)∧0≤i∧i≤n
theorem aAQ {a n:Int} (hn:1≤n∧n≤1000000):0≤atp a n∧atp a n<n:=by
 unfold atp
 rw [if_neg (by omega)]
 have h1:-n<Int.tmod a n:=Int.lt_tmod_of_pos a (b:=n) (by omega)
 have h2:Int.tmod a n<n:=Int.tmod_lt_of_pos a (b:=n) (by omega)
 split
 ·rw [aaC (aai (by omega))]; omega
 ·omega
theorem aGF {s n:Int} (h:0≤s∧s<n):atp s n=s:=by
 unfold atp
 rw [if_neg (by omega)]
 have e1:Int.tmod s n=s:=Int.tmod_eq_of_lt h.1 h.2
 rw [e1,if_neg (by omega)]
theorem as5 {w n s i:Int} (hi:0≤i∧i≤n) (hn:n≤16):i≤aoa w n s i∧aoa w n s i≤n:=by
 unfold aoa
 split
 ·rw [aaC (aai (by omega))]; omega
 ·omega
theorem aLv {v:Int} (h:0≤v∧v<16):v=15∨v=14∨v=13∨v=12∨v=11∨v=10∨v=9∨v=8∨v=7∨v=6∨v=5∨v=4∨v=3∨v=2∨v=1∨v=0:=by omega
theorem auT {w s i:Int} {bm:B16} (hw:1≤e.c.workers) (h:aoI (ab9 e) (.run s i bm)):aaV ProbeV.o (amS w) (abp (amS w (.run s i bm)) e) (ajM w e s i bm):=by
 obtain ⟨hs,hi⟩:=h
 have hn:=awJ hw
 have hM:(if 16<e.c.workers then 16 else e.c.workers)=ab9 e:=rfl
 have hp:=as5 (w:=w) (s:=s) hi hn.2
 unfold abp ajM
 simp only [amS,aaw,o0,hM,Option.bind_some,Bool.false_eq_true,if_false,Bool.not_true,aAp hn.1,decide_eq_true_eq,abi]
 refine aaV.ite (fun _ =>⟨_,rfl,rfl⟩) fun hlt =>?_
 generalize hj:aoa w (ab9 e) s i=j at hp hlt ⊢
 have hsj:wi (s+j)=s+j:=aaC (aai (by omega))
 have hv:=azx (a:=s+j) hn.1 (by omega)
 have hj1:wi (j+1)=j+1:=aaC (aai (by omega))
 rw [if_pos (show ab9 e≠0 by omega),hsj,hj1]
 generalize hvv:Int.tmod (s+j) (ab9 e)=v at hv ⊢
 have hp2:=as5 (w:=w) (s:=s) (i:=j+1) ⟨by omega,by omega⟩ hn.2
 simp only [afi,abG,Option.bind_some]
 refine aaV.bind (z:=(⟨⟨false,0,0⟩,w,true,s,j,bm.put v (e.m.gt (aaK e.l v))⟩,{ e with m:=e.m.pt 1 (aaK e.l v) (e.m.gt (aaK e.l v)) },())) ?_ ?_
 ·rcases aLv (v:=v) (by omega) with h | h | h | h | h | h | h | h | h | h | h | h | h | h | h | h<;>subst h<;>rfl
 simp only [hj1,aAp hn.1,Option.bind_some]
 generalize hj2:aoa w (ab9 e) s (j+1)=j2 at hp2 ⊢
 refine aaV.ite' (c:=ab9 e≤j2) (fun h2 =>?_) (fun h2 =>?_)
 ·simp only [if_true,if_pos (show 0≤ab9 e∧ab9 e≤((16:Nat):Int) by omega)]
  have ht:(((ab9 e).toNat:Nat):Int)=ab9 e:=by omega
  have hm:atp s (ab9 e)=s:=aGF hs
  refine aaV.bind (aAn (w:=w) (s:=s) (n:=ab9 e) hn ⟨hs.1,by omega⟩ s hm _ rfl _ (fun self a b i h0 h16 =>?_) (ab9 e).toNat _ 0 (-1) (-1) (Int.le_refl 0) (by omega) (by omega)) ?_
  ·simp only [ht,aod,hm,Option.bind_some]
   refine ite_congr rfl (fun hlt =>?_) fun _ =>rfl
   have hsi:wi (s+i)=s+i:=aaC (aai (by omega))
   have hv2:=azx (a:=s+i) hn.1 (by omega)
   rw [if_pos (show ab9 e≠0 by omega),hsi]
   generalize Int.tmod (s+i) (ab9 e)=u at hv2 ⊢
   rw [if_pos hv2.2]
   refine (aB0 (z:=(atz ((bm.put v (e.m.gt (aaK e.l v))).at u),⟨⟨false,0,0⟩,w,true,s,j2,bm.put v (e.m.gt (aaK e.l v))⟩,())) ?_).trans ?_
   ·rcases aLv (v:=u) (by omega) with h | h | h | h | h | h | h | h | h | h | h | h | h | h | h | h<;>subst h<;>exact aB0 axY
   ·by_cases c1:u≠w
    ·by_cases c2:b<atz ((bm.put v (e.m.gt (aaK e.l v))).at u)
     ·rw [if_pos c1,if_pos c2,if_pos ⟨c1,c2⟩]
     ·rw [if_pos c1,if_neg c2,if_neg (fun h =>c2 h.2)]
    ·rw [if_neg c1,if_neg (fun h =>c1 h.1)]
  ·have hc:arD w (ab9 e) s (bm.put v (e.m.gt (aaK e.l v)))=ayX w (ab9 e) s (bm.put v (e.m.gt (aaK e.l v))) (ab9 e).toNat 0 (-1,-1):=by unfold arD; rw [hm]
   rw [hc]
   simp only [aa1,Option.bind_some]
   exact aaV.ite (fun _ =>⟨_,rfl,rfl⟩) fun _ =>⟨_,rfl,rfl⟩
 ·rfl
theorem aAh {w:Int} (hw:1≤e.c.workers) (s:ProbeS) (h:aoI (ab9 e) s):aaV ProbeV.o (amS w) (abp (amS w s) e) (akn w e s):=by
 cases s with
 | run s i bm =>exact auT hw h
 | new =>
  have hn:=awJ hw
  have hd:0≤awW e.k (ab9 e)∧awW e.k (ab9 e)<ab9 e:=aAQ ⟨hn.1,by omega⟩
  have h1:=auT (w:=w) (s:=awW e.k (ab9 e)) (i:=0) (bm:=aKp) hw ⟨hd,Int.le_refl 0,by omega⟩
  have hM:(if 16<e.c.workers then 16 else e.c.workers)=ab9 e:=rfl
  have e1:abp (amS w .new) e=abp (amS w (.run (awW e.k (ab9 e)) 0 aKp)) e:=by
   unfold abp
   simp only [amS,aaw,o0,hM,Option.bind_some,Bool.false_eq_true,if_false,Bool.not_true,Bool.not_false,if_true,aDm]
  rw [e1]
  exact h1
theorem aDa {w:Int} (hw:1≤e.c.workers) {s s':ProbeS} {e':EnvP} (h:aoI (ab9 e) s) (hs:akn w e s=(.go s',e')):aoI (ab9 e) s':=by
 have hn:=awJ hw
 have key:∀ s i bm,(0≤s∧s<ab9 e)→(0≤i∧i≤ab9 e)→ajM w e s i bm=(.go s',e')→aoI (ab9 e) s':=fun s i bm hs0 hi hg =>by
  have hp:=as5 (w:=w) (s:=s) hi hn.2
  unfold ajM at hg
  generalize aoa w (ab9 e) s i=j at hp hg
  split at hg
  ·cases hg
  ·rename_i hlt
   have hj1:wi (j+1)=j+1:=aaC (aai (by omega))
   have hp2:=as5 (w:=w) (s:=s) (i:=j+1) ⟨by omega,by omega⟩ hn.2
   simp only [hj1] at hg
   split at hg
   ·split at hg<;>cases hg
   ·cases hg
    exact ⟨hs0,by omega,by omega⟩
 cases s with
 | run s i bm =>exact key s i bm h.1 h.2 hs
 | new =>exact key _ 0 _ (aAQ ⟨hn.1,by omega⟩) ⟨Int.le_refl 0,by omega⟩ hs
end
inductive One (m:MemV):MemV→Prop where
 | no:One m m
 | yes (k a v:Int) (h:0≤a∧a<(m.cells.length:Int)) (hk:k<2→v=ahf m.cells a):One m ⟨m.cells.set a.toNat v,⟨k,a,ahf m.cells a,v⟩,wi (m.count+1)⟩
structure Stp (j:Nat) (e e':EnvP):Prop where
 c:e'.c=e.c
 l:e'.l=e.l
 k:e'.k=e.k
 rl:e'.recs.length=e.recs.length
 m:One e.m e'.m
 ev:e'.evs.length≤e.evs.length+j
 kd:∀ K,(∀ r∈e.recs,r.kids.length≤K)→∀ r∈e'.recs,r.kids.length≤K+1
section
variable {j:Nat} {e e':EnvP}
theorem Stp.refl:Stp 0 e e:=⟨rfl,rfl,rfl,rfl,.no,Nat.le_refl _,fun K h r hr =>Nat.le_succ_of_le (h r hr)⟩
theorem Stp.le {i:Nat} (h:Stp j e e') (hi:j≤i):Stp i e e':=⟨h.c,h.l,h.k,h.rl,h.m,Nat.le_trans h.ev (Nat.add_le_add_left hi _),h.kd⟩
theorem aAJ {m:MemV} {k a v:Int} (hk:k<2→0≤a→a<(m.cells.length:Int)→v=ahf m.cells a):One m (m.pt k a v):=by
 unfold MemV.pt
 by_cases h:0≤a∧a<(m.cells.length:Int)
 ·rw [if_pos h]; exact .yes k a v h fun hk' =>hk hk' h.1 h.2
 ·rw [if_neg h]; exact .no
theorem Stp.pt {k a v:Int} (hk:2≤k):Stp 0 e (e.pt k a v):=⟨rfl,rfl,rfl,rfl,aAJ fun h =>absurd h (by omega),Nat.le_refl _,fun K h r hr =>Nat.le_succ_of_le (h r hr)⟩
theorem Stp.lk {a:Int}:Stp 0 e (e.lk a):=⟨rfl,rfl,rfl,rfl,aAJ fun _ h1 h2 =>by unfold MemV.gt; rw [if_pos ⟨h1,h2⟩],Nat.le_refl _,fun K h r hr =>Nat.le_succ_of_le (h r hr)⟩
theorem Stp.cas {a o v:Int}:Stp 0 e (e.cas a o v):=⟨rfl,rfl,rfl,rfl,aAJ fun h =>absurd h (by omega),Nat.le_refl _,fun K h r hr =>Nat.le_succ_of_le (h r hr)⟩
theorem Stp.em {k w t o l:Int} (h:Stp j e e'):Stp (j+1) e (e'.em k w t o l):=⟨h.c,h.l,h.k,h.rl,h.m,by
 show (e'.evs++[_]).length≤_
 rw [List.length_append,List.length_singleton]
 have:=h.ev
 omega,h.kd⟩
theorem Stp.pr {t:Int} {r:RecP} (h:Stp j e e') (hr:∀ K,(∀ r∈e.recs,r.kids.length≤K)→r.kids.length≤K+1):Stp j e (e'.pr t r):=⟨h.c,h.l,h.k,(by show (e'.recs.set _ _).length=_; rw [List.length_set]; exact h.rl),h.m,h.ev,fun K hK x hx =>by
 rcases List.mem_or_eq_of_mem_set hx with hx | rfl
 ·exact h.kd K hK x hx
 ·exact hr K hK⟩
theorem apP {q:QV} {v:Int} (s:OPushS):Stp 0 e (afS q v e s).2:=by
 cases s<;>unfold afS<;>first | exact .lk | exact .pt (by decide)
theorem aAC {q:QV} (s:OPopS):Stp 0 e (apr q e s).2:=by
 cases s<;>unfold apr<;>first | exact .lk | exact .pt (by decide) | exact .cas
theorem axu {q:QV} (s:StealS):Stp 0 e (aiA q e s).2:=by
 cases s<;>unfold aiA<;>first | exact .lk | exact .pt (by decide) | exact .cas
theorem axE {a b:Int} {q:QV} (s:ResetS):Stp 0 e (agE a b q e s).2:=by
 cases s<;>unfold agE<;>first | exact .lk | exact .pt (by decide)
theorem aIh {a b:Int}:Stp 0 e (aFU a b e):=.pt (by decide)
theorem aqa:Stp 0 e (abr e):=.pt (by decide)
theorem asc {t v:Int} (s:PublishS):Stp 0 e (afA t v e s).2:=by
 unfold afA
 split
 ·exact .refl
 ·cases s<;>exact .pt (by decide)
theorem as0 {t:Int} (h:0≤t∧t<(e.recs.length:Int)) (K:Nat) (hK:∀ r∈e.recs,r.kids.length≤K):(e.rc t).kids.length≤K:=by
 refine hK _ ?_
 have h1:=aff (d:=(dfR 26:RecP)) (xs:=e.recs) h
 exact List.mem_of_getElem? h1
theorem anw {w t:Int} (hr:acD t e=true→0≤t∧t<(e.recs.length:Int)):Stp 1 e (aeW w t e):=by
 unfold aeW
 split
 ·rename_i h
  split
  ·exact Stp.cas.em
  ·refine (Stp.cas.pr fun K hK =>?_).em
   exact Nat.le_succ_of_le (as0 (hr h) K hK)
 ·exact Stp.cas.em
theorem awL {o:Int}:Stp 0 e (awN o e):=.cas
theorem awS:Stp 0 e (avr e):=.pt (by decide)
theorem anl {d t:Int} (s:InsertS):Stp 0 e (acy d t e s).2:=by
 cases s<;>unfold acy<;>first | exact .lk | exact .pt (by decide)
theorem auJ {w:Int} (s:RemoveS):Stp 1 e (adB w e s).2:=by
 cases s<;>unfold adB<;>first | exact Stp.lk.le (by decide) | exact Stp.le (.pt (by decide)) (by decide) | exact Stp.em (.pt (by decide))
theorem aCQ {w:Int} (s:SleepS):Stp 1 e (agD w e s).2:=by
 cases s<;>unfold agD<;>repeat' split
 all_goals first | exact Stp.lk.le (by decide) | exact Stp.le (.pt (by decide)) (by decide) | exact Stp.lk.em
theorem aqe [Tb] {w v:Int} (s:WakeS):Stp 1 e (aej w v e s).2:=by
 cases s<;>unfold aej<;>first | exact Stp.lk.le (by decide) | exact Stp.le (.pt (by decide)) (by decide) | exact Stp.em (.pt (by decide))
theorem axL {w t v:Int} (s:RaiseS):Stp 1 e (adZ w t v e s).2:=by
 unfold adZ
 split
 ·exact Stp.refl.le (by decide)
 ·cases s
  ·exact Stp.lk.le (by decide)
  ·simp only
   split
   ·exact Stp.cas.em
   ·exact Stp.cas.le (by decide)
theorem axN {w:Int} (s:ProbeS):Stp 0 e (akn w e s).2:=by
 have key:∀ s i bm,Stp 0 e (ajM w e s i bm).2:=fun s i bm =>by
  unfold ajM
  split
  ·exact .refl
  ·simp only
   split<;>exact .lk
 cases s
 ·exact key _ _ _
 ·exact key _ _ _
theorem aho {w v x:Int} (s:LPushS):Stp 0 e (abL w v x e s).2:=by
 cases s with
 | new =>
  have h:=apP (e:=e) (q:=aaz e.l w v) (v:=x) .l1
  revert h
  simp only [abL]
  rcases afS (aaz e.l w v) x e .l1 with ⟨r | ⟨c,y⟩,e'⟩<;>intro h<;>exact h
 | push s =>
  have h:=apP (e:=e) (q:=aaz e.l w v) (v:=x) s
  revert h
  simp only [abL]
  rcases afS (aaz e.l w v) x e s with ⟨r | ⟨c,y⟩,e'⟩<;>intro h<;>exact h
 | set =>exact aIh
theorem aGK {w:Int} (s:LPopS):Stp 0 e (aim w e s).2:=by
 cases s with
 | l1 v =>exact .lk
 | l2 v s =>
  have h:=aAC (e:=e) (q:=aaz e.l w v) s
  revert h
  simp only [aim]
  rcases apr (aaz e.l w v) e s with ⟨r | ⟨c,y⟩,e'⟩<;>intro h<;>exact h
 | l3 v s =>
  have h:=axE (e:=e) (a:=aaK e.l w) (b:=v) (q:=aaz e.l w v) s
  revert h
  simp only [aim]
  rcases agE (aaK e.l w) v (aaz e.l w v) e s with ⟨r | ⟨c,y⟩,e'⟩<;>intro h<;>exact h
theorem azr {w v:Int} (s:WalkS):Stp 1 e (ae9 w v e s).2:=by
 cases s with
 | l1 t =>
  by_cases hf:av5 e t v
  ·have h:=axL (e:=e) (w:=w) (t:=t) (v:=v) (.l1 0)
   simp only [ae9,hf,not_true,if_false]
   revert h
   rcases adZ w t v e (.l1 0) with ⟨r | ⟨c,y⟩,e'⟩<;>intro h<;>exact h
  ·simp only [ae9,hf,not_false_eq_true,if_true]
   exact Stp.refl.le (by decide)
 | raise t s =>
  have h:=axL (e:=e) (w:=w) (t:=t) (v:=v) s
  revert h
  simp only [ae9]
  rcases adZ w t v e s with ⟨r | ⟨c,y⟩,e'⟩<;>intro h<;>exact h
 | l2 t =>exact Stp.lk.le (by decide)
 | push t s =>
  have h:=aho (e:=e) (w:=w) (v:=v) (x:=t) s
  revert h
  simp only [ae9]
  rcases abL w v t e s with ⟨r | ⟨c,y⟩,e'⟩<;>intro h
  ·exact h.le (by decide)
  ·show Stp 1 e (if c=3 then _ else _)
   split
   ·exact h.em
   ·exact h.le (by decide)
 | l4 t =>exact Stp.lk.le (by decide)
theorem aD3 {w t:Int} (s:EnterS):Stp 0 e (ad1 w t e s).2:=by
 cases s with
 | l1 =>
  by_cases hf:IsT e t
  ·simp only [ad1,hf,not_true,if_false]; exact .pt (by decide)
  ·simp only [ad1,hf,not_false_eq_true,if_true]; exact .refl
 | l2 =>exact .pt (by decide)
 | l3 =>exact .lk
 | l4 v s =>
  have h:=aho (e:=e) (w:=w) (v:=v) (x:=t) s
  revert h
  simp only [ad1]
  rcases abL w v t e s with ⟨r | ⟨c,y⟩,e'⟩<;>intro h<;>exact h
theorem aCD {w t:Int} (s:SweepS):Stp 1 e (aa4 w t e s).2:=by
 cases s with
 | l1 =>
  by_cases hf:¬ IsT e t∨e.c.age=0
  ·simp only [aa4,hf,if_true]; exact Stp.refl.le (by decide)
  ·simp only [aa4,hf,if_false]; exact Stp.lk.le (by decide)
 | l2 =>exact Stp.lk.le (by decide)
 | l3 =>exact Stp.lk.le (by decide)
 | l4 q =>
  by_cases hf:e.hit (aaW e.l t) q=true
  ·simp only [aa4,hf,if_true]; exact Stp.cas.em
  ·simp only [aa4,hf,if_false]; exact Stp.cas.le (by decide)
 | l5 q =>exact Stp.le (.pt (by decide)) (by decide)
 | l6 q s =>
  have h:=aho (e:=e) (w:=w) (v:=wi (wi q+1)) (x:=t) s
  revert h
  simp only [aa4]
  rcases abL w (wi (wi q+1)) t e s with ⟨r | ⟨c,y⟩,e'⟩<;>intro h
  ·exact h.le (by decide)
  ·show Stp 1 e (if c=3 then _ else _)
   split
   ·exact h.em
   ·exact h.le (by decide)
theorem aFt {w:Int} (hr:∀ t,acD t e=true→0≤t∧t<(e.recs.length:Int)) (s:TakeS):Stp 1 e (alA w e s).2:=by
 cases s with
 | pop s =>
  have h:=aGK (e:=e) (w:=w) s
  revert h
  simp only [alA]
  rcases aim w e s with ⟨r | ⟨c,y⟩,e'⟩<;>intro h<;>exact h.le (by decide)
 | claim t =>exact anw (hr t)
theorem aD8 [Tb] {w:Int} (d:DrainS):Stp 1 e (abT w e d).2:=by
 obtain ⟨x,b,p,la,n,c⟩:=d
 cases c with
 | l1 =>exact Stp.lk.le (by decide)
 | l2 =>exact awL.le (by decide)
 | l3 s =>
  have h:=auJ (e:=e) (w:=w) s
  revert h
  simp only [abT]
  rcases adB w e s with ⟨r | ⟨c,y⟩,e'⟩<;>intro h<;>exact h
 | l4 =>exact Stp.lk.le (by decide)
 | l5 s =>
  have h:=aho (e:=e) (w:=w) (v:=p) (x:=x) s
  revert h
  simp only [abT]
  rcases abL w p x e s with ⟨r | ⟨c,y⟩,e'⟩<;>intro h<;>exact h.le (by decide)
 | l6 =>exact awS.le (by decide)
 | l7 s =>
  have h:=aqe (e:=e) (w:=w) (v:=la) s
  revert h
  simp only [abT]
  rcases aej w la e s with ⟨r | ⟨c,y⟩,e'⟩<;>intro h<;>exact h
end
structure EOk (K:Nat) (e:EnvP):Prop where
 dq:0≤e.l.deque∧e.l.deque≤65535
 tk:e.l.tasks=(e.recs.length:Int)
 ct:e.c.tasks=(e.recs.length:Int)
 wk:1≤e.c.workers
 ev:e.evs.length≤K
 kd:∀ r∈e.recs,r.kids.length≤K
section
variable [Tb] {K:Nat} {e:EnvP}
theorem EOk.q (h:EOk K e) (w v:Int):(aaz e.l w v).cap≤9223372036854775807:=by
 have:=h.dq
 unfold aaz
 repeat' split
 all_goals simp only; omega
theorem EOk.st (h:EOk K e) {t o:Int} (hh:e.hit (aa8 e.l t) o=true):0≤t∧t<(e.recs.length:Int):=by
 have h1:0≤aa8 e.l t:=by
  have:=of_decide_eq_true hh
  exact this.1.1
 unfold aa8 ac0 atP at h1
 rw [← h.tk]
 split at h1
 ·omega
 ·split at h1<;>omega
theorem EOk.step (h:EOk K e) {j:Nat} {e':EnvP} (s:Stp j e e'):EOk (K+j+1) e':=by
 refine ⟨?_,?_,?_,?_,?_,?_⟩
 ·rw [s.l]; exact h.dq
 ·rw [s.l,s.rl]; exact h.tk
 ·rw [s.c,s.rl]; exact h.ct
 ·rw [s.c]; exact h.wk
 ·have:=s.ev; have:=h.ev; omega
 ·intro r hr
  have:=s.kd K h.kd r hr
  omega
@[reducible] def aq4 (l : LayV) (w v x : Int) : LPushS → LPushV MV
 | .new =>⟨o0,w,v,x,1,.nil⟩
 | .push s =>⟨o0,w,v,x,1,.opush (ax5 (aaz l w v) x s)⟩
 | .set =>⟨o0,w,v,x,2,.set ⟨o0,aaK l w,v⟩⟩
@[reducible] def aGL (l : LayV) (w : Int) : LPopS → LPopV MV
 | .l1 v =>⟨o0,w,v,1,.nil⟩
 | .l2 v s =>⟨o0,w,v,2,.opop (aDp (aaz l w v) s)⟩
 | .l3 v s =>⟨o0,w,v,3,.reset (auI (aaK l w) v (aaz l w v) s)⟩
@[reducible] def aFn (l : LayV) (w v : Int) : WalkS → WalkV MV
 | .l1 t =>⟨o0,w,t,v,1,.nil⟩
 | .raise t s =>⟨o0,w,t,v,1,.raise (auQ w t v s)⟩
 | .l2 t =>⟨o0,w,t,v,2,.nil⟩
 | .push t s =>⟨o0,w,t,v,3,.lpush (aq4 l w v t s)⟩
 | .l4 t =>⟨o0,w,t,v,4,.nil⟩
@[reducible] def aBx (l : LayV) (w t : Int) : EnterS → EnterV MV
 | .l1 =>⟨o0,w,t,0,1,.nil⟩
 | .l2 =>⟨o0,w,t,0,2,.nil⟩
 | .l3 =>⟨o0,w,t,0,3,.nil⟩
 | .l4 v s =>⟨o0,w,t,v,4,.lpush (aq4 l w v t s)⟩
@[reducible] def ahG (l : LayV) (w t : Int) : SweepS → SweepV MV
 | .l1 =>⟨o0,w,t,1,0,.nil⟩
 | .l2 =>⟨o0,w,t,2,0,.nil⟩
 | .l3 =>⟨o0,w,t,3,0,.nil⟩
 | .l4 q =>⟨o0,w,t,4,q,.nil⟩
 | .l5 q =>⟨o0,w,t,5,q,.nil⟩
 | .l6 q s =>⟨o0,w,t,6,q,.lpush (aq4 l w (wi (wi q+1)) t s)⟩
@[reducible] def aFu (l : LayV) (w : Int) : TakeS → TakeV MV
 | .pop s =>⟨o0,w,false,.lpop (aGL l w s)⟩
 | .claim t =>⟨o0,w,true,.claim ⟨o0,w,t⟩⟩
@[reducible] def aBC (l : LayV) (w p x last : Int) : DrainC → Int × MV
 | .l1 =>(1,.nil)
 | .l2 =>(2,.attempt ⟨o0,w,true⟩)
 | .l3 s =>(3,.remove (asX w s))
 | .l4 =>(4,.nil)
 | .l5 s =>(5,.lpush (aq4 l w p x s))
 | .l6 =>(6,.release ⟨o0⟩)
 | .l7 s =>(7,.wake (aup w last s))
@[reducible] def ayo (l : LayV) (w : Int) (d : DrainS) : DrainV MV :=
 ⟨o0,w,(aBC l w d.p d.x d.last d.c).1,(aBC l w d.p d.x d.last d.c).2,d.x,d.direct,d.p,d.last,d.count⟩
theorem al2:(SR1.spl MV.nil).isNone=true:=rfl
theorem azJ (x:OPushV):(SR1.spl (MV.opush x)).isNone=false:=rfl
theorem aFJ (x:SetV):(SR1.spl (MV.set x)).isNone=false:=rfl
theorem azI (x:RaiseV):(SR1.spl (MV.raise x)).isNone=false:=rfl
theorem akB {w v x:Int} (hK:EOk K e) (s:LPushS):aaV LPushV.o (aq4 e.l w v x) (acC (aq4 e.l w v x s) e) (abL w v x e s):=by
 have hq:=hK.q w v
 cases s with
 | new =>
  have h:=au3 (e:=e) (v:=x) hq .l1
  have hn:=apP (e:=e) (q:=aaz e.l w v) (v:=x) .l1
  revert h hn
  simp only [abL,acC,al2,aaw,abi,o0,akw,aqV,akf,Option.bind_some,if_true,Bool.false_eq_true,if_false]
  rcases afS (aaz e.l w v) x e .l1 with ⟨r | ⟨c,y⟩,e'⟩<;>intro h hn
  ·simp only [aaV,o0] at h
   simp only [h,Option.bind_some,Bool.not_false,if_true]
   rfl
  ·simp only [aaV,o0] at h
   obtain ⟨x',h,ho⟩:=h
   have hnl:e'.l=e.l:=hn.l
   simp only [h,ho,afz,Option.bind_some,Bool.not_true,Bool.false_eq_true,if_false,afi,ak3,hnl,reduceIte,Int.reduceEq,aa1]
   exact aaV.ite (fun _ =>⟨_,rfl,rfl⟩) fun _ =>rfl
 | push s =>
  have h:=au3 (e:=e) (v:=x) hq s
  have hn:=apP (e:=e) (q:=aaz e.l w v) (v:=x) s
  revert h hn
  simp only [abL,acC,azJ,aaw,abi,o0,akf,Option.bind_some,if_true,Bool.false_eq_true,if_false]
  rcases afS (aaz e.l w v) x e s with ⟨r | ⟨c,y⟩,e'⟩<;>intro h hn
  ·simp only [aaV] at h
   simp only [h,Option.bind_some,Bool.not_false,if_true]
   rfl
  ·simp only [aaV] at h
   obtain ⟨x',h,ho⟩:=h
   have hnl:e'.l=e.l:=hn.l
   simp only [h,ho,afz,Option.bind_some,Bool.not_true,Bool.false_eq_true,if_false,afi,ak3,hnl,reduceIte,Int.reduceEq,aa1]
   exact aaV.ite (fun _ =>⟨_,rfl,rfl⟩) fun _ =>rfl
 | set =>
  obtain ⟨y,h,ho⟩:=aFS (e:=e) (a:=aaK e.l w) (b:=v)
  simp only [o0] at h
  simp only [abL,acC,aFJ,aaw,abi,o0,akf,h,ho,afz,Option.bind_some,Bool.not_true,if_true,Bool.false_eq_true,if_false,reduceIte,Int.reduceEq]
  exact ⟨_,rfl,rfl⟩
theorem aDD {w:Int} (hK:EOk K e) (s:LPopS):aaV LPopV.o (aGL e.l w) (adg (aGL e.l w s) e) (aim w e s):=by
 cases s with
 | l1 v =>
  simp only [aim,adg,ajk,aaw,abi,o0,afi,abG,axY,akw,ath,Option.bind_some,if_true,Bool.false_eq_true,if_false,aa1,acr]
  exact aaV.ite (fun _ =>⟨_,rfl,rfl⟩) fun _ =>rfl
 | l2 v s =>
  have h:=aDo (e:=e) (hK.q w v) s
  have hn:=aAC (e:=e) (q:=aaz e.l w v) s
  revert h hn
  simp only [aim,adg,aaw,abi,o0,akf,Option.bind_some,if_true,Bool.false_eq_true,if_false,reduceIte,Int.reduceEq]
  rcases apr (aaz e.l w v) e s with ⟨r | ⟨c,y⟩,e'⟩<;>intro h hn
  ·simp only [aaV] at h
   simp only [h,Option.bind_some,Bool.not_false,if_true]
   rfl
  ·simp only [aaV] at h
   obtain ⟨x',h,ho⟩:=h
   have hnl:e'.l=e.l:=hn.l
   simp only [h,ho,afz,Option.bind_some,Bool.not_true,Bool.false_eq_true,if_true,if_false,afi,akw,ahW,hnl,reduceIte,Int.reduceEq,aa1]
   exact aaV.ite (fun _ =>⟨_,rfl,rfl⟩) fun _ =>rfl
 | l3 v s =>
  have h:=auH (e:=e) (a:=aaK e.l w) (b:=v) (q:=aaz e.l w v) s
  revert h
  simp only [aim,adg,aaw,abi,o0,akf,Option.bind_some,if_true,Bool.false_eq_true,if_false,reduceIte,Int.reduceEq]
  rcases agE (aaK e.l w) v (aaz e.l w v) e s with ⟨r | ⟨c,y⟩,e'⟩<;>intro h
  ·simp only [aaV] at h
   simp only [h,Option.bind_some,Bool.not_false,if_true]
   rfl
  ·simp only [aaV] at h
   obtain ⟨x',h,ho⟩:=h
   simp only [h,ho,afz,Option.bind_some,Bool.not_true,Bool.false_eq_true,if_true,if_false]
   rfl
theorem aCv {w v:Int} (hK:EOk K e) (hk:K≤100000000) (s:WalkS):aaV WalkV.o (aFn e.l w v) (acb (aFn e.l w v s) e) (ae9 w v e s):=by
 have hl:e.evs.length≤999999999:=by have:=hK.ev; omega
 cases s with
 | l1 t =>
  by_cases hf:av5 e t v
  ·have h:=auP (e:=e) (w:=w) (t:=t) (v:=v) hl (.l1 0)
   revert h
   simp only [ae9,hf,acb,aeX,atI,decide_true,not_true,Bool.not_true,al2,aoy,aaw,abi,o0,aeg,Option.bind_some,if_true,Bool.false_eq_true,if_false,reduceIte,Int.reduceEq]
   rcases adZ w t v e (.l1 0) with ⟨r | ⟨c,y⟩,e'⟩<;>intro h
   ·simp only [aaV,o0] at h
    simp only [h,Option.bind_some,Bool.not_false,if_true]
    rfl
   ·simp only [aaV,o0] at h
    obtain ⟨x',h,ho⟩:=h
    simp only [h,ho,abF,Option.bind_some,Bool.not_true,Bool.false_eq_true,if_true,if_false,aa1,acr,avo]
    exact aaV.ite (fun _ =>rfl) fun _ =>rfl
  ·simp only [ae9,hf,acb,aeX,atI,decide_false,not_false_eq_true,Bool.not_false,al2,aaw,abi,o0,Option.bind_some,if_true,Bool.false_eq_true,if_false,reduceIte,Int.reduceEq]
   exact ⟨_,rfl,rfl⟩
 | raise t s =>
  have h:=auP (e:=e) (w:=w) (t:=t) (v:=v) hl s
  revert h
  simp only [ae9,acb,aeX,azI,aaw,abi,o0,aeg,Option.bind_some,if_true,Bool.false_eq_true,if_false,reduceIte,Int.reduceEq]
  rcases adZ w t v e s with ⟨r | ⟨c,y⟩,e'⟩<;>intro h
  ·simp only [aaV] at h
   simp only [h,Option.bind_some,Bool.not_false,if_true]
   rfl
  ·simp only [aaV] at h
   obtain ⟨x',h,ho⟩:=h
   simp only [h,ho,abF,Option.bind_some,Bool.not_true,Bool.false_eq_true,if_true,if_false,aa1,acr,avo]
   exact aaV.ite (fun _ =>rfl) fun _ =>rfl
 | l2 t =>
  simp only [ae9,acb,aaw,abi,o0,afB,abG,acK,Option.bind_some,if_true,Bool.false_eq_true,if_false,reduceIte,Int.reduceEq,aa1,avo]
  exact aaV.ite (fun _ =>rfl) fun _ =>rfl
 | push t s =>
  have h:=akB (w:=w) (v:=v) (x:=t) hK s
  have hn:=aho (e:=e) (w:=w) (v:=v) (x:=t) s
  revert h hn
  simp only [ae9,acb,ajC,aaw,abi,o0,aeg,Option.bind_some,if_true,Bool.false_eq_true,if_false,reduceIte,Int.reduceEq]
  rcases abL w v t e s with ⟨r | ⟨c,y⟩,e'⟩<;>intro h hn
  ·simp only [aaV] at h
   simp only [h,Option.bind_some,Bool.not_false,if_true]
   rw [← hn.l]
   rfl
  ·simp only [aaV] at h
   obtain ⟨x',h,ho⟩:=h
   have hl':e'.evs.length≤999999999:=by have h1:e'.evs.length≤e.evs.length+0:=hn.ev; have:=hK.ev; omega
   simp only [h,ho,abF,Option.bind_some,Bool.not_true,Bool.false_eq_true,if_true,if_false,aco hl']
   by_cases hc:c=3
   ·simp only [hc,if_true]; rfl
   ·simp only [hc,if_false]; rfl
 | l4 t =>
  simp only [ae9,acb,aaw,abi,o0,amU,abG,Option.bind_some,if_true,Bool.false_eq_true,if_false,reduceIte,Int.reduceEq,aa1]
  exact aaV.ite (fun _ =>⟨_,rfl,rfl⟩) fun _ =>rfl
theorem aBw {w t:Int} (hK:EOk K e) (s:EnterS):aaV EnterV.o (aBx e.l w t) (ab8 (aBx e.l w t s) e) (ad1 w t e s):=by
 cases s with
 | l1 =>
  by_cases hf:IsT e t
  ·simp only [ad1,hf,ab8,akH,decide_true,not_true,Bool.not_true,aaw,abi,as8,o0,aku,abA,Option.bind_some,if_true,Bool.false_eq_true,if_false,reduceIte,Int.reduceEq]
   rfl
  ·simp only [ad1,hf,ab8,akH,decide_false,not_false_eq_true,Bool.not_false,aaw,abi,o0,Option.bind_some,if_true,Bool.false_eq_true,if_false,reduceIte,Int.reduceEq]
   exact ⟨_,rfl,rfl⟩
 | l2 =>
  simp only [ad1,ab8,aaw,abi,o0,afB,abA,Option.bind_some,if_true,Bool.false_eq_true,if_false,reduceIte,Int.reduceEq]
  rfl
 | l3 =>
  simp only [ad1,ab8,aaw,abi,o0,agI,abG,acK,Option.bind_some,if_true,Bool.false_eq_true,if_false,reduceIte,Int.reduceEq]
  rfl
 | l4 v s =>
  have h:=akB (w:=w) (v:=v) (x:=t) hK s
  have hn:=aho (e:=e) (w:=w) (v:=v) (x:=t) s
  revert h hn
  simp only [ad1,ab8,aaw,abi,o0,aeg,Option.bind_some,if_true,Bool.false_eq_true,if_false,reduceIte,Int.reduceEq]
  rcases abL w v t e s with ⟨r | ⟨c,y⟩,e'⟩<;>intro h hn
  ·simp only [aaV] at h
   simp only [h,Option.bind_some,Bool.not_false,if_true]
   rfl
  ·simp only [aaV] at h
   obtain ⟨x',h,ho⟩:=h
   simp only [h,ho,abF,Option.bind_some,Bool.not_true,Bool.false_eq_true,if_true,if_false]
   exact ⟨_,rfl,rfl⟩
theorem aCB {w:Int} (hK:EOk K e) (hk:K≤100000000) (s:TakeS):aaV TakeV.o (aFu e.l w) (afg (aFu e.l w s) e) (alA w e s):=by
 have hl:e.evs.length≤999999999:=by have:=hK.ev; omega
 cases s with
 | pop s =>
  have h:=aDD (w:=w) hK s
  revert h
  simp only [alA,afg,aaw,abi,o0,aeg,Option.bind_some,if_true,Bool.false_eq_true,if_false]
  rcases aim w e s with ⟨r | ⟨c,y⟩,e'⟩<;>intro h
  ·simp only [aaV] at h
   simp only [h,Option.bind_some,Bool.not_false,if_true]
   rfl
  ·simp only [aaV] at h
   obtain ⟨x',h,ho⟩:=h
   simp only [h,ho,abF,acI,Option.bind_some,Bool.not_true,Bool.false_eq_true,if_true,if_false,aa1]
   exact aaV.ite (fun _ =>⟨_,rfl,rfl⟩) fun _ =>rfl
 | claim t =>
  obtain ⟨x',h,ho⟩:=anv (w:=w) (t:=t) hl hK.st
  simp only [o0] at h
  simp only [alA,afg,aaw,abi,o0,aeg,h,Option.bind_some,if_true,Bool.false_eq_true,if_false,abF,Bool.not_true,agK]
  rcases Bool.eq_false_or_eq_true (acD t e) with hc | hc
  ·simp only [hc,if_true] at ho ⊢
   simp only [ho,if_true]
   exact ⟨_,rfl,rfl⟩
  ·simp only [hc,Bool.false_eq_true,if_false] at ho ⊢
   simp only [ho,reduceIte,Int.reduceEq]
   rfl
end
section
variable [Tb] {K:Nat} {e:EnvP}
theorem aCJ {w t:Int} (hK:EOk K e) (hk:K≤100000000):aaV SweepV.o (ahG e.l w t) (aaE (ahG e.l w t .l1) e) (aa4 w t e .l1):=by
 have hl:e.evs.length≤999999999:=by have:=hK.ev; omega
 have hm:∀ m v,aeJ { e with m:=m } v=some ((),({ e with m:=m,evs:=e.evs++[v] },())):=fun m v =>aco (e:={ e with m:=m }) hl
 by_cases c1:t<0
 ·have hf:¬ IsT e t∨e.c.age=0:=.inl fun h =>by have:=h.1; omega
  simp only [aa4]
  rw [if_pos hf]
  simp only [aaE,abJ,c1,aaw,abi,o0,Option.bind_some,Bool.false_eq_true,if_false,reduceIte,Int.reduceEq]
  exact ⟨_,rfl,rfl⟩
 by_cases c2:e.c.tasks≤t
 ·have hf:¬ IsT e t∨e.c.age=0:=.inl fun h =>by have:=h.2; omega
  simp only [aa4]
  rw [if_pos hf]
  simp only [aaE,abJ,c1,c2,aaw,abi,o0,Option.bind_some,Bool.false_eq_true,if_false,reduceIte,Int.reduceEq]
  exact ⟨_,rfl,rfl⟩
 by_cases c3:e.c.age=0
 ·have hf:¬ IsT e t∨e.c.age=0:=.inr c3
  simp only [aa4]
  rw [if_pos hf]
  simp only [aaE,abJ,c1,c2,c3,decide_true,aaw,abi,o0,Option.bind_some,Bool.false_eq_true,if_false,reduceIte,Int.reduceEq]
  exact ⟨_,rfl,rfl⟩
 have hf:¬ (¬ IsT e t∨e.c.age=0):=fun h =>h.elim (fun h =>h ⟨by omega,by omega⟩) c3
 simp only [aa4]
 rw [if_neg hf]
 simp only [aaE,abJ,c1,c2,c3,decide_false,aaw,abi,o0,Option.bind_some,Bool.false_eq_true,if_true,reduceIte,Int.reduceEq,afB,abG,decide_eq_true_eq,aa1]
 refine aaV.iteL (fun h =>?_) fun h =>?_
 ·rw [if_neg h]; exact ⟨_,rfl,rfl⟩
 ·rw [if_pos (Classical.not_not.1 h)]; rfl
theorem aCI {w t:Int} (hK:EOk K e) (hk:K≤100000000):aaV SweepV.o (ahG e.l w t) (aaE (ahG e.l w t .l2) e) (aa4 w t e .l2):=by
 have hl:e.evs.length≤999999999:=by have:=hK.ev; omega
 have hm:∀ m v,aeJ { e with m:=m } v=some ((),({ e with m:=m,evs:=e.evs++[v] },())):=fun m v =>aco (e:={ e with m:=m }) hl
 simp only [aa4,aaE,abJ,aaw,abi,as8,o0,Option.bind_some,if_true,Bool.false_eq_true,if_false,reduceIte,Int.reduceEq,aku,abG,decide_eq_true_eq,aa1]
 exact aaV.ite (fun _ =>⟨_,rfl,rfl⟩) fun _ =>rfl
theorem aCH {w t:Int} (hK:EOk K e) (hk:K≤100000000):aaV SweepV.o (ahG e.l w t) (aaE (ahG e.l w t .l3) e) (aa4 w t e .l3):=by
 have hl:e.evs.length≤999999999:=by have:=hK.ev; omega
 have hm:∀ m v,aeJ { e with m:=m } v=some ((),({ e with m:=m,evs:=e.evs++[v] },())):=fun m v =>aco (e:={ e with m:=m }) hl
 simp only [aa4,aaE,abJ,aaw,abi,o0,Option.bind_some,if_true,Bool.false_eq_true,if_false,reduceIte,Int.reduceEq,agI,abG,decide_eq_true_eq,aa1]
 exact aaV.ite (fun _ =>⟨_,rfl,rfl⟩) fun _ =>rfl
theorem aCG {w t:Int} (hK:EOk K e) (hk:K≤100000000) (q:Int):aaV SweepV.o (ahG e.l w t) (aaE (ahG e.l w t (.l4 q)) e) (aa4 w t e (.l4 q)):=by
 have hl:e.evs.length≤999999999:=by have:=hK.ev; omega
 have hm:∀ m v,aeJ { e with m:=m } v=some ((),({ e with m:=m,evs:=e.evs++[v] },())):=fun m v =>aco (e:={ e with m:=m }) hl
 have he:∀ x:SweepV MV,abQ x 12=some ((⟨12,x.worker,x.task,0,wi (wi x.q+1)⟩,()),(x,())):=fun x =>id rfl
 simp only [aa4,aaE,he,aaw,abi,o0,Option.bind_some,if_true,Bool.false_eq_true,if_false,reduceIte,Int.reduceEq,agI,akz,hm]
 exact aaV.iteN (fun _ =>rfl) fun _ =>⟨_,rfl,rfl⟩
theorem aCF {w t:Int} (hK:EOk K e) (hk:K≤100000000) (q:Int):aaV SweepV.o (ahG e.l w t) (aaE (ahG e.l w t (.l5 q)) e) (aa4 w t e (.l5 q)):=by
 have hl:e.evs.length≤999999999:=by have:=hK.ev; omega
 have hm:∀ m v,aeJ { e with m:=m } v=some ((),({ e with m:=m,evs:=e.evs++[v] },())):=fun m v =>aco (e:={ e with m:=m }) hl
 simp only [aa4,aaE,aaw,abi,as8,o0,Option.bind_some,if_true,Bool.false_eq_true,if_false,reduceIte,Int.reduceEq,aku,abA,acK]
 rfl
theorem bnd {α β:Type} {a:α} {f:α→Option β}:(some a).bind f=f a:=by
 generalize h:some a=x
 subst h
 rfl
theorem aCE {w t:Int} (hK:EOk K e) (hk:K≤100000000) (q:Int) (s:LPushS):aaV SweepV.o (ahG e.l w t) (aaE (ahG e.l w t (.l6 q s)) e) (aa4 w t e (.l6 q s)):=by
 have h:=akB (w:=w) (v:=wi (wi q+1)) (x:=t) hK s
 have hn:=aho (e:=e) (w:=w) (v:=wi (wi q+1)) (x:=t) s
 have he:∀ x:SweepV MV,abQ x 19=some ((⟨19,x.worker,x.task,0,wi (wi x.q+1)⟩,()),(x,())):=fun x =>id rfl
 revert h hn
 simp only [aa4,aaE,he,bnd,aaw,abi,o0,aeg,if_true,Bool.false_eq_true,if_false,reduceIte,Int.reduceEq]
 rcases abL w (wi (wi q+1)) t e s with ⟨r | ⟨c,y⟩,e'⟩<;>intro h hn
 ·simp only [aaV] at h
  simp only [h,bnd,Bool.not_false,if_true]
  rfl
 ·simp only [aaV] at h
  obtain ⟨x',h,ho⟩:=h
  have hl':e'.evs.length≤999999999:=by have h1:e'.evs.length≤e.evs.length+0:=hn.ev; have:=hK.ev; omega
  simp only [h,ho,abF,bnd,Bool.not_true,Bool.false_eq_true,if_true,if_false,aco hl']
  by_cases hc:c=3
  ·simp only [hc,if_true]; exact ⟨_,rfl,rfl⟩
  ·simp only [hc,if_false]; exact ⟨_,rfl,rfl⟩
theorem azA {w t:Int} (hK:EOk K e) (hk:K≤100000000) (s:SweepS):aaV SweepV.o (ahG e.l w t) (aaE (ahG e.l w t s) e) (aa4 w t e s):=by
 cases s with
 | l1 =>exact aCJ hK hk
 | l2 =>exact aCI hK hk
 | l3 =>exact aCH hK hk
 | l4 q =>exact aCG hK hk q
 | l5 q =>exact aCF hK hk q
 | l6 q s =>exact aCE hK hk q s
end
section
variable [Tb] {K:Nat} {e:EnvP}
theorem aBk {w:Int} {l:LayV} {ln:Int} {m:MV} {d:DrainS} {e':EnvP}:aaV DrainV.o (ayo l w) (((aaZ ⟨⟨false,0,0⟩,w,ln,m,d.x,d.direct,d.p,d.last,d.count⟩).bind fun r =>some ((r.1.1,()),(r.2.1,e',()))).bind fun r =>some ((r.1.1,()),(r.2.1,r.2.2.1,()))) (ao1 d,e'):=by
 obtain ⟨x,b,p,la,n,c⟩:=d
 unfold ao1
 simp only [aaZ,abi,bnd,o0,acr,aa1]
 exact aaV.ite (fun _ =>⟨_,rfl,rfl⟩) fun _ =>aaV.ite (fun _ =>⟨_,rfl,rfl⟩) fun _ =>⟨_,rfl,rfl⟩
def aug (d:DrainS):Prop:=match d.c with
 | .l6 =>True
 | .l7 _ =>True
 | _ =>d.direct=false
theorem aBz {w:Int} (hK:EOk K e) (hk:K≤100000000) (d:DrainS) (hd:aug d):aaV DrainV.o (ayo e.l w) (abq (ayo e.l w d) e) (abT w e d):=by
 have hl:e.evs.length≤999999999:=by have:=hK.ev; omega
 obtain ⟨x,b,p,la,n,c⟩:=d
 cases c with
 | l1 =>
  simp only [abT,abq,aaN,awM,aaw,abi,ag9,o0,abG,bnd,if_true,Bool.false_eq_true,if_false,reduceIte,Int.reduceEq,aa1]
  exact aaV.ite (fun _ =>⟨_,rfl,rfl⟩) fun _ =>rfl
 | l2 =>
  obtain ⟨dn,x',h,ho,hd,_⟩:=att (e:=e) (w:=w) (b:=true)
  rw [Bool.or_true] at hd
  subst hd
  have ho:=ho rfl
  simp only [o0] at h
  simp only [abT,abq,acR,abv,aaN,agq,aaw,abi,o0,aeg,h,bnd,if_true,Bool.false_eq_true,if_false,reduceIte,Int.reduceEq,abF,Bool.not_true]
  rcases Bool.eq_false_or_eq_true (e.hit 1 0) with hh | hh
  ·simp only [hh,if_true] at ho ⊢
   simp only [ho,reduceIte,Int.reduceEq]
   rfl
  ·simp only [hh,Bool.false_eq_true,if_false] at ho ⊢
   simp only [ho,reduceIte,Int.reduceEq]
   exact ⟨_,rfl,rfl⟩
 | l3 s =>
  have h:=ayT (e:=e) (w:=w) hl s
  have hn:=auJ (e:=e) (w:=w) s
  revert h hn
  simp only [abT,abq,aaw,abi,o0,aeg,bnd,if_true,Bool.false_eq_true,if_false,reduceIte,Int.reduceEq]
  rcases adB w e s with ⟨r | ⟨c,y⟩,e'⟩<;>intro h hn
  ·simp only [aaV] at h
   simp only [h,bnd,Bool.not_false,if_true]
   rfl
  ·simp only [aaV] at h
   obtain ⟨x',h,ho⟩:=h
   simp only [h,ho,abF,acR,aa2,aaN,agb,bnd,Bool.not_true,Bool.false_eq_true,if_true,if_false,reduceIte,Int.reduceEq,acr,aa1]
   exact aaV.ite (fun _ =>rfl) fun _ =>rfl
 | l4 =>
  simp only [abT,abq,aaN,acK,aaw,abi,o0,agI,abG,bnd,if_true,Bool.false_eq_true,if_false,reduceIte,Int.reduceEq]
  rfl
 | l5 s =>
  have h:=akB (w:=w) (v:=p) (x:=x) hK s
  have hn:=aho (e:=e) (w:=w) (v:=p) (x:=x) s
  revert h hn
  simp only [abT,abq,aaw,abi,o0,aeg,bnd,if_true,Bool.false_eq_true,if_false,reduceIte,Int.reduceEq]
  rcases abL w p x e s with ⟨r | ⟨c,y⟩,e'⟩<;>intro h hn
  ·simp only [aaV] at h
   simp only [h,bnd,Bool.not_false,if_true]
   rfl
  ·simp only [aaV] at h
   obtain ⟨x',h,ho⟩:=h
   have hc:e'.c=e.c:=hn.c
   simp only [h,ho,abF,acR,ac5,abv,aa2,aaN,agq,agb,bnd,Bool.not_true,Bool.false_eq_true,if_true,if_false,reduceIte,Int.reduceEq,acr,aa1,hc]
   have hb:b=false:=hd
   subst hb
   simp only [Bool.false_eq_true,if_false]
   exact aaV.ite (fun _ =>rfl) fun _ =>aaV.ite (fun _ =>rfl) fun _ =>rfl
 | l6 =>
  obtain ⟨x',h,ho⟩:=ayg (e:=e)
  simp only [o0] at h
  simp only [abT,abq,acR,aaN,adc,aaw,abi,o0,aeg,h,ho,bnd,if_true,Bool.false_eq_true,if_false,reduceIte,Int.reduceEq,abF,Bool.not_true,acr,aa1]
  exact aaV.ite (fun _ =>rfl) fun _ =>aBk (d:=⟨x,b,p,la,n,.l6⟩)
 | l7 s =>
  have h:=amp (e:=e) (w:=w) (v:=la) hl s
  revert h
  simp only [abT,abq,aaw,abi,o0,aeg,bnd,if_true,Bool.false_eq_true,if_false,reduceIte,Int.reduceEq]
  rcases aej w la e s with ⟨r | ⟨c,y⟩,e'⟩<;>intro h
  ·simp only [aaV] at h
   simp only [h,bnd,Bool.not_false,if_true]
   rfl
  ·simp only [aaV] at h
   obtain ⟨x',h,ho⟩:=h
   simp only [h,ho,abF,acR,bnd,Bool.not_true,Bool.false_eq_true,if_true,if_false,reduceIte,Int.reduceEq]
   exact aBk (d:=⟨x,b,p,la,n,.l7 s⟩)
theorem aD7 {w:Int} {d d':DrainS} {e':EnvP} (hd:aug d) (h:abT w e d=(.go d',e')):aug d':=by
 obtain ⟨x,b,p,la,n,c⟩:=d
 cases c with
 | l1 =>
  simp only [abT] at h
  split at h<;>cases h
  exact hd
 | l2 =>
  simp only [abT] at h
  split at h<;>cases h
  exact hd
 | l3 s =>
  simp only [abT] at h
  split at h
  ·cases h; exact hd
  ·split at h<;>cases h
   ·trivial
   ·exact hd
 | l4 =>cases h; exact hd
 | l5 s =>
  simp only [abT] at h
  split at h
  ·cases h; exact hd
  ·split at h
   ·cases h; trivial
   ·split at h<;>cases h
    ·exact hd
    ·trivial
 | l6 =>
  simp only [abT] at h
  split at h
  ·cases h; trivial
  ·unfold ao1 at h
   repeat' split at h
   all_goals cases h
 | l7 s =>
  simp only [abT] at h
  split at h
  ·cases h; trivial
  ·unfold ao1 at h
   repeat' split at h
   all_goals cases h
end
structure SOk (l:List Int):Prop where
 ne:l≠[]
 le:l.length≤999999999
section
variable {l:List Int}
theorem SOk.n (h:SOk l):wi (((l.length:Nat):Int)-1)=((l.length-1:Nat):Int):=by
 have h1:=List.length_pos_iff.2 h.ne
 have h2:=h.le
 rw [aaC (aai (by omega))]; omega
theorem SOk.a (h:SOk l):ady l ((l.length-1:Nat):Int)=aas l:=by
 have h1:=List.length_pos_iff.2 h.ne
 have h2:l[l.length-1]?=some (l[l.length-1]'(by omega)):=List.getElem?_eq_getElem _
 simp only [ady,atL,aas,Int.toNat_natCast,List.getLast?_eq_getElem?,h2]
 rfl
theorem SOk.g (h:SOk l):(0≤((l.length-1:Nat):Int)∧((l.length-1:Nat):Int)<((l.length:Nat):Int))=True:=by
 have h1:=List.length_pos_iff.2 h.ne
 exact eq_true ⟨by omega,by omega⟩
theorem SOk.g2 (h:SOk l):(0≤((l.length-1:Nat):Int)∧((l.length-1:Nat):Int)≤((l.length:Nat):Int))=True:=by
 have h1:=List.length_pos_iff.2 h.ne
 exact eq_true ⟨by omega,by omega⟩
theorem SOk.t (h:SOk l):l.take (((l.length-1:Nat):Int)).toNat=l.dropLast:=by
 rw [List.dropLast_eq_take]; simp
theorem SOk.s (h:SOk l) (y:Int):l.set (((l.length-1:Nat):Int)).toNat y=l.dropLast++[y]:=by
 obtain ⟨a,b,rfl⟩:∃ a b,l=a++[b]:=⟨l.dropLast,l.getLast h.ne,(List.dropLast_concat_getLast h.ne).symm⟩
 simp
end
section
variable [Tb] {e:EnvP} {o:OutV} {w ln id ch lv wt:Int} {st:List Int} {m:MV}
theorem anG {rs:List RecP} {t:Int} {r:RecP} (h:0≤t∧t<(rs.length:Int)):aab (rs.set t.toNat r) t=r:=arL h
theorem auO {rs:List RecP} {t:Int} (h:0≤t∧t<(rs.length:Int)):rs.set t.toNat (aab rs t)=rs:=by
 have h1:=aff (d:=(dfR 26:RecP)) (xs:=rs) h
 have h2:t.toNat<rs.length:=by omega
 refine List.ext_getElem? fun i =>?_
 by_cases hi:t.toNat=i
 ·subst hi
  rw [List.getElem?_set_self h2]
  exact h1.symm
 ·rw [List.getElem?_set_ne hi]
def agf (x:RecP) (p:List Ins):Int :=
 if x.waiting ≠ -1 then 1
 else if x.pc<0∨(p.length:Int)≤x.pc then 16
 else if (acl p x.pc).op=0 then 2
 else if (acl p x.pc).op=1 then 4
 else if (acl p x.pc).a<0∨(x.kids.length:Int)≤(acl p x.pc).a∨ady x.kids (acl p x.pc).a=-1 then 3
 else 9
theorem aqJ {x:RecP} (h1:¬ x.prog<0) (h2:¬ (e.c.progs.length:Int)≤x.prog):e.prog x=atL [] e.c.progs x.prog:=by
 unfold EnvP.prog
 rw [if_neg (by omega)]
theorem ago {x:RecP} (h:x.prog<0∨(e.c.progs.length:Int)≤x.prog):e.prog x=[]:=by
 unfold EnvP.prog
 rw [if_pos h]
theorem aBQ {x:RunV MV} (hS:SOk x.stack) (hT:0≤aas x.stack∧aas x.stack<(e.recs.length:Int)):afy x e=some ((agf (e.rc (aas x.stack)) (e.prog (e.rc (aas x.stack))),()),(x,e,())):=by
 unfold afy
 try simp only [tpI,tlI]
 simp only [hS.n,hS.a,hS.g,hT,and_self,if_true,auO hT]
 show _=some ((agf (aab e.recs (aas x.stack)) (e.prog (aab e.recs (aas x.stack))),()),(x,e,()))
 generalize aab e.recs (aas x.stack)=r
 by_cases h1:r.prog<0
 ·rw [ago (.inl h1)]
  simp only [h1,if_true,agf,List.length_nil]
  split
  ·rfl
  ·rw [if_pos (show r.pc<0∨((0:Nat):Int)≤r.pc by omega)]
   split
   ·rfl
   ·rw [if_pos (by omega)]
 by_cases h2:(e.c.progs.length:Int)≤r.prog
 ·rw [ago (.inr h2)]
  simp only [h1,h2,if_true,if_false,agf,List.length_nil]
  split
  ·rfl
  ·rw [if_pos (show r.pc<0∨((0:Nat):Int)≤r.pc by omega)]
   split
   ·rfl
   ·rw [if_pos (by omega)]
 rw [aqJ h1 h2]
 generalize atL [] e.c.progs r.prog=p
 unfold agf
 rw [if_neg h1,if_neg h2]
 rw [if_pos (show 0≤r.prog∧r.prog<(e.c.progs.length:Int) by omega)]
 by_cases hw:r.waiting ≠ -1
 ·rw [if_pos hw,if_pos hw]
 rw [if_neg hw,if_neg hw]
 by_cases h3:r.pc<0
 ·rw [if_pos h3,if_pos (.inl h3)]
 by_cases h4:(p.length:Int)≤r.pc
 ·rw [if_neg h3,if_pos h4,if_pos (.inr h4)]
 rw [if_neg h3,if_neg h4,if_neg (show ¬ (r.pc<0∨(p.length:Int)≤r.pc) by omega)]
 have hp:0≤r.pc∧r.pc<(p.length:Int):=by omega
 rw [if_pos hp]
 by_cases c1:(acl p r.pc).op=0
 ·rw [if_pos c1,if_pos c1]
 rw [if_neg c1,if_neg c1,if_pos hp]
 by_cases c2:(acl p r.pc).op=1
 ·rw [if_pos c2,if_pos c2]
 rw [if_neg c2,if_neg c2,if_pos hp]
 by_cases h5:(acl p r.pc).a<0
 ·rw [if_pos h5,if_pos (.inl h5)]
 by_cases h6:(r.kids.length:Int)≤(acl p r.pc).a
 ·rw [if_neg h5,if_pos h6,if_pos (.inr (.inl h6))]
 rw [if_neg h5,if_neg h6,if_pos (show 0≤(acl p r.pc).a∧(acl p r.pc).a<(r.kids.length:Int) by omega)]
 by_cases h7:ady r.kids (acl p r.pc).a=-1
 ·rw [if_pos h7,if_pos (.inr (.inr h7))]
 ·rw [if_neg h7,if_neg (by omega)]
theorem anW {x:RunV MV} {v:Ev} (h:e.evs.length≤999999999):aaH x e v=some ((),(x,{ e with evs:=e.evs++[{ v with worker:=x.worker }] },())):=by
 unfold aaH
 try simp only [tpI,tlI]
 rw [aco h,bnd]
theorem aFR (hS:SOk st) (hT:0≤aas st∧aas st<(e.recs.length:Int)):aaG ⟨o,w,st,1,m,id,ch,lv,wt⟩ e=some ((false,()),(⟨o,w,st,0,.nil,id,ch,lv,wt⟩,(e.pt 2 (adp e.l (aas st)) 0).pr (aas st) { e.rc (aas st) with waiting := -1 },())):=by
 unfold aaG
 try simp only [tpI,tlI]
 simp only [tpI,tlI,hS.n,hS.a,hS.g,hT,and_self,if_true,amU,abA,aac,bnd]
 rfl
theorem aFQ (hS:SOk st) (hT:0≤aas st∧aas st<(e.recs.length:Int)) (hp:¬ ((e.rc (aas st)).pc<0∨((e.prog (e.rc (aas st))).length:Int)≤(e.rc (aas st)).pc)):aaG ⟨o,w,st,2,m,id,ch,lv,wt⟩ e=some ((false,()),(⟨o,w,st,0,.nil,id,ch,lv,wt⟩,e.pr (aas st) (avC (e.rc (aas st)) (acl (e.prog (e.rc (aas st))) (e.rc (aas st)).pc)),())):=by
 unfold aaG
 try simp only [tpI,tlI]
 simp only [tpI,tlI,hS.n,hS.a,hS.g,hT,and_self,if_true,Int.reduceEq,if_false,anG hT,List.set_set,aac,bnd,List.length_set]
 show _=some ((false,()),(_,{ e with recs:=e.recs.set (aas st).toNat (avC (aab e.recs (aas st)) (acl (e.prog (aab e.recs (aas st))) (aab e.recs (aas st)).pc)) },()))
 have hp':¬ ((aab e.recs (aas st)).pc<0∨((e.prog (aab e.recs (aas st))).length:Int)≤(aab e.recs (aas st)).pc):=hp
 generalize aab e.recs (aas st)=r at hp' ⊢
 by_cases h1:r.prog<0
 ·rw [ago (.inl h1)] at hp'; simp only [List.length_nil] at hp'; omega
 by_cases h2:(e.c.progs.length:Int)≤r.prog
 ·rw [ago (.inr h2)] at hp'; simp only [List.length_nil] at hp'; omega
 rw [aqJ h1 h2] at hp' ⊢
 have h3:(0≤r.prog∧r.prog<(e.c.progs.length:Int))=True:=eq_true (by omega)
 have h4:(0≤r.pc∧r.pc<((atL [] e.c.progs r.prog).length:Int))=True:=eq_true (by omega)
 simp only [h1,h2,h3,h4,if_true,if_false,avC]
 by_cases h5:r.left=0
 ·simp only [h5,if_true]
  split<;>rfl
 ·simp only [h5,if_false]
  split<;>rfl
theorem aFP (hS:SOk st) (hT:0≤aas st∧aas st<(e.recs.length:Int)):aaG ⟨o,w,st,3,m,id,ch,lv,wt⟩ e=some ((false,()),(⟨o,w,st,0,.nil,id,ch,lv,wt⟩,e.pr (aas st) { e.rc (aas st) with pc:=wi ((e.rc (aas st)).pc+1) },())):=by
 unfold aaG
 try simp only [tpI,tlI]
 simp only [tpI,tlI,hS.n,hS.a,hS.g,hT,and_self,if_true,Int.reduceEq,if_false,aac,bnd]
 rfl
end
end
section
open Go Go.RowKit
set_option maxRecDepth 100000
set_option maxRecDepth 100000
section
variable [Tb] {e:EnvP} {o:OutV} {w ln id ch lv wt:Int} {st:List Int} {m:MV}
theorem azg (hS:SOk st) (hT:0≤aas st∧aas st<(e.recs.length:Int)) (hp:¬ ((e.rc (aas st)).pc<0∨((e.prog (e.rc (aas st))).length:Int)≤(e.rc (aas st)).pc)) (hl:e.evs.length≤999999999) (hk:(e.rc (aas st)).kids.length≤999999999) (v:Int) :
  acn ⟨o,w,st,4,m,id,ch,lv,wt⟩ e 3 v=some ((false,()),(⟨o,w,st,0,.nil,id,ch,lv,wt⟩,(e.pr (aas st) { e.rc (aas st) with pc:=wi ((e.rc (aas st)).pc+1),kids:=(e.rc (aas st)).kids++[-1] }).em 4 w (aas st) 0 0,())):=by
 unfold acn
 try unfold tpI
 try unfold tlI
 have he:∀ (x:RunV MV) (rs:List RecP) (v:Ev),aaH x { e with recs:=rs } v=some ((),(x,{ e with recs:=rs,evs:=e.evs++[{ v with worker:=x.worker }] },())):=fun x rs v =>anW (e:={ e with recs:=rs }) hl
 simp only [hS.n,hS.a,hS.g,hT,and_self,if_true,anG hT,List.set_set,List.length_set]
 have hp':¬ ((aab e.recs (aas st)).pc<0∨((e.prog (aab e.recs (aas st))).length:Int)≤(aab e.recs (aas st)).pc):=hp
 have hk':(aab e.recs (aas st)).kids.length≤999999999:=hk
 show _=some ((false,()),(_,EnvP.em { e with recs:=e.recs.set (aas st).toNat { aab e.recs (aas st) with pc:=wi ((aab e.recs (aas st)).pc+1),kids:=(aab e.recs (aas st)).kids++[-1] } } 4 w (aas st) 0 0,()))
 generalize aab e.recs (aas st)=r at hp' hk' ⊢
 by_cases h1:r.prog<0
 ·rw [ago (.inl h1)] at hp'; simp only [List.length_nil] at hp'; omega
 by_cases h2:(e.c.progs.length:Int)≤r.prog
 ·rw [ago (.inr h2)] at hp'; simp only [List.length_nil] at hp'; omega
 rw [aqJ h1 h2] at hp'
 rw [if_neg h1,if_neg h2,if_pos (show 0≤r.prog∧r.prog<(e.c.progs.length:Int) by omega),if_pos (show 0≤r.pc∧r.pc<((atL [] e.c.progs r.prog).length:Int) by omega),if_pos (show (((r.kids.length+([-1]:List Int).length:Nat)):Int)<1000000000000 by rw [List.length_singleton]; omega)]
 rw [he,bnd,aac,bnd]
 rfl
theorem aB9 (hS:SOk st) (hT:0≤aas st∧aas st<(e.recs.length:Int)) (hp:¬ ((e.rc (aas st)).pc<0∨((e.prog (e.rc (aas st))).length:Int)≤(e.rc (aas st)).pc)) (hk:(e.rc (aas st)).kids.length≤999999999) (v:Int) (hv:0≤v∧v<(e.recs.length:Int)) :
  acn ⟨o,w,st,4,m,id,ch,lv,wt⟩ e 1 v=some ((false,()),(⟨o,w,st,5,.publish ⟨o0,v,(acl (e.prog (e.rc (aas st))) (e.rc (aas st)).pc).b,1⟩,v,ch,(acl (e.prog (e.rc (aas st))) (e.rc (aas st)).pc).b,wt⟩,(e.pr (aas st) { e.rc (aas st) with pc:=wi ((e.rc (aas st)).pc+1),kids:=(e.rc (aas st)).kids++[v] }).pr v (ay1 (acl (e.prog (e.rc (aas st))) (e.rc (aas st)).pc).a (aas st)),())):=by
 unfold acn
 try unfold tpI
 try unfold tlI
 simp only [hS.n,hS.a,hS.g,hT,and_self,if_true,anG hT,List.set_set,List.length_set,Int.reduceEq,if_false,hv]
 have hp':¬ ((aab e.recs (aas st)).pc<0∨((e.prog (aab e.recs (aas st))).length:Int)≤(aab e.recs (aas st)).pc):=hp
 have hk':(aab e.recs (aas st)).kids.length≤999999999:=hk
 show _=some ((false,()),((⟨o,w,st,5,.publish ⟨o0,v,(acl (e.prog (aab e.recs (aas st))) (aab e.recs (aas st)).pc).b,1⟩,v,ch,(acl (e.prog (aab e.recs (aas st))) (aab e.recs (aas st)).pc).b,wt⟩:RunV MV),({ e with recs:=(e.recs.set (aas st).toNat { aab e.recs (aas st) with pc:=wi ((aab e.recs (aas st)).pc+1),kids:=(aab e.recs (aas st)).kids++[v] }).set v.toNat ⟨(acl (e.prog (aab e.recs (aas st))) (aab e.recs (aas st)).pc).a,aas st,0,0,-1,[],false⟩ }:EnvP),()))
 generalize aab e.recs (aas st)=r at hp' hk' ⊢
 by_cases h1:r.prog<0
 ·rw [ago (.inl h1)] at hp'; simp only [List.length_nil] at hp'; omega
 by_cases h2:(e.c.progs.length:Int)≤r.prog
 ·rw [ago (.inr h2)] at hp'; simp only [List.length_nil] at hp'; omega
 rw [aqJ h1 h2] at hp' ⊢
 rw [if_neg h1,if_neg h2,if_pos (show 0≤r.prog∧r.prog<(e.c.progs.length:Int) by omega),if_pos (show 0≤r.pc∧r.pc<((atL [] e.c.progs r.prog).length:Int) by omega),if_pos (show (((r.kids.length+([v]:List Int).length:Nat)):Int)<1000000000000 by rw [List.length_singleton]; omega)]
 rw [akd,bnd,aac,bnd]
theorem aKR (hS:SOk st) (hT:0≤aas st∧aas st<(e.recs.length:Int)) (hp:¬ ((e.rc (aas st)).pc<0∨((e.prog (e.rc (aas st))).length:Int)≤(e.rc (aas st)).pc)) (ha:¬ ((acl (e.prog (e.rc (aas st))) (e.rc (aas st)).pc).a<0∨((e.rc (aas st)).kids.length:Int)≤(acl (e.prog (e.rc (aas st))) (e.rc (aas st)).pc).a)) :
  aaM ⟨o,w,st,9,m,id,ch,lv,wt⟩ e=some ((false,()),(⟨o,w,st,10,.nil,id,ady (e.rc (aas st)).kids (acl (e.prog (e.rc (aas st))) (e.rc (aas st)).pc).a,lv,wt⟩,(e.pt 2 (adp e.l (aas st)) (wu (wi (ady (e.rc (aas st)).kids (acl (e.prog (e.rc (aas st))) (e.rc (aas st)).pc).a+1)))).pr (aas st) { e.rc (aas st) with pc:=wi ((e.rc (aas st)).pc+1),waiting:=ady (e.rc (aas st)).kids (acl (e.prog (e.rc (aas st))) (e.rc (aas st)).pc).a },())):=by
 unfold aaM
 try unfold tpI
 try unfold tlI
 simp only [hS.n,hS.a,hS.g,hT,and_self,if_true,auO hT,anG hT,List.set_set,List.length_set]
 have hp':¬ ((aab e.recs (aas st)).pc<0∨((e.prog (aab e.recs (aas st))).length:Int)≤(aab e.recs (aas st)).pc):=hp
 have ha':¬ ((acl (e.prog (aab e.recs (aas st))) (aab e.recs (aas st)).pc).a<0∨((aab e.recs (aas st)).kids.length:Int)≤(acl (e.prog (aab e.recs (aas st))) (aab e.recs (aas st)).pc).a):=ha
 show _=some ((false,()),((⟨o,w,st,10,.nil,id,ady (aab e.recs (aas st)).kids (acl (e.prog (aab e.recs (aas st))) (aab e.recs (aas st)).pc).a,lv,wt⟩:RunV MV),EnvP.pr (e.pt 2 (adp e.l (aas st)) (wu (wi (ady (aab e.recs (aas st)).kids (acl (e.prog (aab e.recs (aas st))) (aab e.recs (aas st)).pc).a+1)))) (aas st) { aab e.recs (aas st) with pc:=wi ((aab e.recs (aas st)).pc+1),waiting:=ady (aab e.recs (aas st)).kids (acl (e.prog (aab e.recs (aas st))) (aab e.recs (aas st)).pc).a },()))
 generalize aab e.recs (aas st)=r at hp' ha' ⊢
 by_cases h1:r.prog<0
 ·rw [ago (.inl h1)] at hp'; simp only [List.length_nil] at hp'; omega
 by_cases h2:(e.c.progs.length:Int)≤r.prog
 ·rw [ago (.inr h2)] at hp'; simp only [List.length_nil] at hp'; omega
 rw [aqJ h1 h2] at hp' ha' ⊢
 rw [if_neg h1,if_neg h2,if_pos (show 0≤r.prog∧r.prog<(e.c.progs.length:Int) by omega),if_pos (show 0≤r.pc∧r.pc<((atL [] e.c.progs r.prog).length:Int) by omega),if_pos (show 0≤(acl (atL [] e.c.progs r.prog) r.pc).a∧(acl (atL [] e.c.progs r.prog) r.pc).a<(r.kids.length:Int) by omega)]
 rw [amU,bnd,abA,bnd,aac,bnd]
 rfl
theorem axI {α β:Type} {X:Option ((Bool×Unit)×(α×β×Unit))}:(X.bind fun r =>some ((r.1.1,()),(r.2.1,r.2.2.1,())))=X:=by cases X<;>rfl
theorem asT (hS:SOk st) (hT:IsT e (aas st)) (hc:e.c.tasks=(e.recs.length:Int)) (X:Option ((Bool×Unit)×(RunV MV×EnvP×Unit))) (a b c:Option ((Bool×Unit)×(RunV MV×EnvP×Unit))) :
  (if aas st<0 then a else if e.c.tasks≤aas st then b else if (e.recs.length:Int)≤aas st then c else X)=X:=by
 have h1:=hT.1
 have h2:=hT.2
 rw [if_neg (by omega),if_neg (by omega),if_neg (by omega)]
theorem amM (hS:SOk st) (hT:IsT e (aas st)) (hc:e.c.tasks=(e.recs.length:Int)) (h:4≤ln∧ln≤8):abt ⟨o0,w,st,ln,m,id,ch,lv,wt⟩ e=abo ⟨o0,w,st,ln,m,id,ch,lv,wt⟩ e:=by
 unfold abt
 try unfold tpI
 try unfold tlI
 simp only [aaw,abi,o0,bnd,hS.n,hS.a,hS.g,if_true,Bool.false_eq_true,if_false,axI,asT hS hT hc]
 rw [if_neg (by omega),if_neg (by omega),if_neg (by omega),if_neg (by omega),if_pos h.1,if_pos h.2]
theorem alf (hS:SOk st) (hT:IsT e (aas st)) (hc:e.c.tasks=(e.recs.length:Int)) (h:9≤ln∧ln≤15):abt ⟨o0,w,st,ln,m,id,ch,lv,wt⟩ e=aaM ⟨o0,w,st,ln,m,id,ch,lv,wt⟩ e:=by
 unfold abt
 try unfold tpI
 try unfold tlI
 simp only [aaw,abi,o0,bnd,hS.n,hS.a,hS.g,if_true,Bool.false_eq_true,if_false,axI,asT hS hT hc]
 rw [if_neg (by omega),if_neg (by omega),if_neg (by omega),if_neg (by omega),if_pos (show 4≤ln by omega),if_neg (by omega),if_pos h.1,if_pos h.2]
theorem aiM (hS:SOk st) (hT:IsT e (aas st)) (hc:e.c.tasks=(e.recs.length:Int)) (h:16≤ln):abt ⟨o0,w,st,ln,m,id,ch,lv,wt⟩ e=aar ⟨o0,w,st,ln,m,id,ch,lv,wt⟩ e:=by
 unfold abt
 try unfold tpI
 try unfold tlI
 simp only [aaw,abi,o0,bnd,hS.n,hS.a,hS.g,if_true,Bool.false_eq_true,if_false,axI,asT hS hT hc]
 rw [if_neg (by omega),if_neg (by omega),if_neg (by omega),if_neg (by omega),if_pos (show 4≤ln by omega),if_neg (by omega),if_pos (show 9≤ln by omega),if_neg (by omega)]
theorem aCX (hS:SOk st) (hT:IsT e (aas st)) (hc:e.c.tasks=(e.recs.length:Int)) {c:Int} (h:agf (e.rc (aas st)) (e.prog (e.rc (aas st)))=c) (hR:0≤aas st∧aas st<(e.recs.length:Int)) :
  abt ⟨o0,w,st,0,m,id,ch,lv,wt⟩ e=if c=4 then abo ⟨o0,w,st,4,.alloc ⟨o0⟩,id,ch,lv,wt⟩ e else if c=1∨c=2∨c=3 then aaG ⟨o0,w,st,c,m,id,ch,lv,wt⟩ e else if c=9 then aaM ⟨o0,w,st,c,m,id,ch,lv,wt⟩ e else aar ⟨o0,w,st,c,m,id,ch,lv,wt⟩ e:=by
 have hch:=aBQ (x:=⟨⟨false,0,0⟩,w,st,0,m,id,ch,lv,wt⟩) hS hR
 simp only [h] at hch
 have hv:c=1∨c=16∨c=2∨c=4∨c=3∨c=9:=by
  rw [← h]
  unfold agf
  repeat' split
  all_goals simp
 unfold abt
 try unfold tpI
 try unfold tlI
 simp only [aaw,abi,o0,bnd,hS.n,hS.a,hS.g,if_true,Bool.false_eq_true,if_false,axI,asT hS hT hc,hch,afv]
 rcases hv with rfl | rfl | rfl | rfl | rfl | rfl<;>simp only [Int.reduceEq,Int.reduceLE,if_true,if_false,or_self,or_true,true_or,false_or,or_false]
end
end
section
open Go Go.RowKit
set_option maxRecDepth 100000
@[reducible] def aIq (l : LayV) (w id lv wt : Int) : RunC → Int × MV
 | .next =>(0,.nil)
 | .s2 s =>(5,.publish (amR id lv s))
 | .s3 s =>(6,.lpush (aq4 l w lv id s))
 | .s4 s =>(7,.wake (aup w lv s))
 | .s5 =>(8,.claim ⟨o0,w,id⟩)
 | .j2 =>(10,.nil)
 | .j3 =>(11,.nil)
 | .j4 =>(12,.nil)
 | .j5 s =>(13,.walk (aFn l w lv s))
 | .j6 =>(14,.nil)
 | .j7 =>(15,.nil)
 | .f2 =>(17,.nil)
 | .f3 =>(18,.nil)
 | .f4 s =>(19,.enter (aBx l w wt s))
 | .f5 v s =>(20,.wake (aup w v s))
 | .f6 =>(21,.claim ⟨o0,w,wt⟩)
@[reducible] def aJ8 (l : LayV) (w : Int) (r : RunS) : RunV MV :=
 ⟨o0,w,r.stack,(aIq l w r.id r.level r.waiter r.c).1,(aIq l w r.id r.level r.waiter r.c).2,r.id,r.child,r.level,r.waiter⟩
section
variable [Tb] {K:Nat} {e:EnvP} {w:Int}
theorem aiS {l:LayV} {e':EnvP} {st:List Int} {ln id ch lv wt:Int} {m:MV} {c:RunC} (hS:SOk st):aaV RunV.o (aJ8 l w) ((aao ⟨⟨false,0,0⟩,w,st,ln,m,id,ch,lv,wt⟩).bind fun r =>some ((r.1.1,()),(r.2.1,e',()))) (aha ⟨st,id,ch,lv,wt,c⟩ e'):=by
 have h1:=List.length_pos_iff.2 hS.ne
 have h2:=hS.le
 unfold aao aha
 try simp only [tpI,tlI]
 simp only [tpI,tlI,hS.n,hS.g2,hS.t,if_true,List.length_dropLast,abi,aac,bnd,acr,aa1]
 by_cases hl:st.length=1
 ·rw [if_pos (by omega),if_pos hl]; exact ⟨_,rfl,rfl⟩
 ·rw [if_neg (by omega),if_neg hl]; rfl
theorem aF0 (hK:EOk K e) (hk:K≤100000000) (r:RunS) (hS:SOk r.stack):aaV RunV.o (aJ8 e.l w) (abt (aJ8 e.l w r) e) (aui w e r):=by
 have hl:e.evs.length≤999999999:=by have:=hK.ev; omega
 obtain ⟨st,id,ch,lv,wt,c⟩:=r
 have hS:SOk st:=hS
 unfold aui
 by_cases hT:IsT e (aas st)
 ·have hR:0≤aas st∧aas st<(e.recs.length:Int):=⟨hT.1,by have:=hT.2; have:=hK.ct; omega⟩
  have hct:=hK.ct
  have he:∀ (x:RunV MV) (e':EnvP) (_:e'.evs.length≤999999999) (v:Ev),aaH x e' v=some ((),(x,{ e' with evs:=e'.evs++[{ v with worker:=x.worker }] },())):=fun x e' h v =>anW h
  rw [if_neg (fun h =>h hT)]
  unfold aeB
  cases c with
  | next =>
   simp only [arW]
   have hkd:(e.rc (aas st)).kids.length≤999999999:=by have:=as0 hR K hK.kd; omega
   have hnx:=fun c h =>aCX (w:=w) (id:=id) (ch:=ch) (lv:=lv) (wt:=wt) (m:=.nil) hS hT hct (c:=c) h hR
   by_cases c1:(e.rc (aas st)).waiting ≠ -1
   ·rw [if_pos c1]
    rw [hnx 1 (by unfold agf; rw [if_pos c1])]
    simp only [Int.reduceEq,if_false,true_or,if_true]
    rw [aFR hS hR]
    rfl
   rw [if_neg c1]
   by_cases c2:(e.rc (aas st)).pc<0∨((e.prog (e.rc (aas st))).length:Int)≤(e.rc (aas st)).pc
   ·rw [if_pos c2]
    rw [hnx 16 (by unfold agf; rw [if_neg c1,if_pos c2])]
    simp only [Int.reduceEq,if_false,or_self]
    simp only [tpI,tlI,aar,hS.n,hS.a,hS.g,if_true,afB,abA,aac,bnd]
    rfl
   rw [if_neg c2]
   by_cases c3:(acl (e.prog (e.rc (aas st))) (e.rc (aas st)).pc).op=0
   ·rw [if_pos c3]
    rw [hnx 2 (by unfold agf; rw [if_neg c1,if_neg c2,if_pos c3])]
    simp only [Int.reduceEq,if_false,false_or,true_or,or_true,if_true]
    rw [aFQ hS hR c2]
    rfl
   rw [if_neg c3]
   by_cases c4:(acl (e.prog (e.rc (aas st))) (e.rc (aas st)).pc).op=1
   ·rw [if_pos c4]
    rw [hnx 4 (by unfold agf; rw [if_neg c1,if_neg c2,if_neg c3,if_pos c4])]
    obtain ⟨x',h,ho⟩:=avQ (e:=e)
    simp only [tpI,tlI,if_true,abo,afw,bnd,h,adQ,Bool.not_true,Bool.false_eq_true,if_false]
    by_cases ci:IsT e (wi (e.gt 0))
    ·rw [if_pos ci] at ho ⊢
     have hv:0≤wi (e.gt 0)∧wi (e.gt 0)<((abr e).recs.length:Int):=⟨ci.1,by have:=ci.2; show _<(e.recs.length:Int); omega⟩
     have ha:=aB9 (e:=abr e) (o:=o0) (w:=w) (id:=id) (ch:=ch) (lv:=lv) (wt:=wt) (m:=.alloc x') hS hR c2 hkd (wi (e.gt 0)) hv
     simp only [ho]
     rw [ha]
     rfl
    ·rw [if_neg ci] at ho ⊢
     have ha:=azg (e:=abr e) (o:=o0) (w:=w) (id:=id) (ch:=ch) (lv:=lv) (wt:=wt) (m:=.alloc x') hS hR c2 hl hkd 0
     simp only [ho]
     rw [ha]
     rfl
   rw [if_neg c4]
   by_cases c5:(acl (e.prog (e.rc (aas st))) (e.rc (aas st)).pc).a<0∨((e.rc (aas st)).kids.length:Int)≤(acl (e.prog (e.rc (aas st))) (e.rc (aas st)).pc).a∨ady (e.rc (aas st)).kids (acl (e.prog (e.rc (aas st))) (e.rc (aas st)).pc).a=-1
   ·rw [if_pos c5]
    rw [hnx 3 (by unfold agf; rw [if_neg c1,if_neg c2,if_neg c3,if_neg c4,if_pos c5])]
    simp only [Int.reduceEq,if_false,false_or,or_true,if_true]
    rw [aFP hS hR]
    rfl
   ·rw [if_neg c5]
    rw [hnx 9 (by unfold agf; rw [if_neg c1,if_neg c2,if_neg c3,if_neg c4,if_neg c5])]
    simp only [Int.reduceEq,if_false,or_self,if_true]
    rw [aKR hS hR c2 (fun h =>c5 (h.elim .inl fun h =>.inr (.inl h)))]
    rfl
  | s2 s =>
   have h:=awr (e:=e) (t:=id) (v:=lv) s
   have hn:=asc (e:=e) (t:=id) (v:=lv) s
   simp only [amM hS hT hct (show (4:Int)≤5∧(5:Int)≤8 by decide)]
   revert h hn
   simp only [tpI,tlI,abo,afw,bnd]
   rcases afA id lv e s with ⟨r | ⟨c,y⟩,e'⟩<;>intro h hn
   ·simp only [aaV] at h
    simp only [h,bnd,Bool.not_false,if_true]
    rfl
   ·simp only [aaV] at h
    obtain ⟨x',h,ho⟩:=h
    have hl':e'.evs.length≤999999999:=by have h1:e'.evs.length≤e.evs.length+0:=hn.ev; have:=hK.ev; omega
    simp only [tpI,tlI,h,ho,adQ,bnd,Bool.not_true,Bool.false_eq_true,if_false,if_true,Int.reduceEq,hS.n,hS.a,hS.g,he _ e' hl',acK,aac]
    rfl
  | s3 s =>
   have h:=akB (w:=w) (v:=lv) (x:=id) hK s
   simp only [amM hS hT hct (show (4:Int)≤6∧(6:Int)≤8 by decide)]
   revert h
   simp only [tpI,tlI,abo,afw,bnd]
   rcases abL w lv id e s with ⟨r | ⟨c,y⟩,e'⟩<;>intro h
   ·simp only [aaV] at h
    simp only [h,bnd,Bool.not_false,if_true]
    rfl
   ·simp only [aaV] at h
    obtain ⟨x',h,ho⟩:=h
    simp only [tpI,tlI,h,ho,adQ,bnd,Bool.not_true,Bool.false_eq_true,if_false,if_true,Int.reduceEq,acI,adc,aac]
    by_cases hc:c=3
    ·simp only [hc,if_true]; rfl
    ·simp only [hc,if_false]; rfl
  | s4 s =>
   have h:=amp (e:=e) (w:=w) (v:=lv) hl s
   simp only [amM hS hT hct (show (4:Int)≤7∧(7:Int)≤8 by decide)]
   revert h
   simp only [tpI,tlI,abo,afw,bnd]
   rcases aej w lv e s with ⟨r | ⟨c,y⟩,e'⟩<;>intro h
   ·simp only [aaV] at h
    simp only [h,bnd,Bool.not_false,if_true]
    rfl
   ·simp only [aaV] at h
    obtain ⟨x',h,ho⟩:=h
    simp only [tpI,tlI,h,ho,adQ,bnd,Bool.not_true,Bool.false_eq_true,if_false,if_true,Int.reduceEq,aac]
    rfl
  | s5 =>
   obtain ⟨x',h,ho⟩:=anv (w:=w) (t:=id) hl hK.st
   simp only [amM hS hT hct (show (4:Int)≤8∧(8:Int)≤8 by decide)]
   simp only [tpI,tlI,abo,afw,bnd,h,adQ,Bool.not_true,Bool.false_eq_true,if_false,if_true,Int.reduceEq,aac]
   have hsl:((st.length+([id]:List Int).length:Nat):Int)<1000000000000:=by
    have h2:st.length≤999999999:=hS.le
    clear hR hct hl hk hK
    trace_state
    rw [List.length_singleton]
    omega
   rcases Bool.eq_false_or_eq_true (acD id e) with hc | hc
   ·simp only [hc,if_true] at ho ⊢
    simp only [ho,if_true,hsl]
    rfl
   ·simp only [hc,Bool.false_eq_true,if_false] at ho ⊢
    simp only [ho,Int.reduceEq,if_false]
    rfl
  | j2 =>
   simp only [tpI,tlI,alf hS hT hct (show (9:Int)≤10∧(10:Int)≤15 by decide),aaM,hS.n,hS.a,hS.g,if_true,Int.reduceEq,if_false,afB,abA,aac,bnd]
   rfl
  | j3 =>
   simp only [tpI,tlI,alf hS hT hct (show (9:Int)≤11∧(11:Int)≤15 by decide),aaM,hS.n,hS.a,hS.g,if_true,Int.reduceEq,if_false,ata,akz,aac,he _ { e with m:=e.m.cas (ac4 e.l ch) 0 (wu (wi (aas st+1))) } hl,bnd]
   exact aaV.iteN (fun _ =>rfl) fun _ =>rfl
  | j4 =>
   simp only [tpI,tlI,alf hS hT hct (show (9:Int)≤12∧(12:Int)≤15 by decide),aaM,hS.n,hS.a,hS.g,if_true,Int.reduceEq,if_false,agI,abG,ak0,aac,bnd]
   rfl
  | j5 s =>
   have h:=aCv (w:=w) (v:=lv) hK hk s
   have hn:=azr (e:=e) (w:=w) (v:=lv) s
   simp only [alf hS hT hct (show (9:Int)≤13∧(13:Int)≤15 by decide)]
   revert h hn
   simp only [tpI,tlI,aaM,hS.n,hS.a,hS.g,if_true,Int.reduceEq,if_false,afw,bnd]
   rcases ae9 w lv e s with ⟨r | ⟨c,y⟩,e'⟩<;>intro h hn
   ·simp only [aaV] at h
    simp only [h,bnd,Bool.not_false,if_true]
    rfl
   ·simp only [aaV] at h
    obtain ⟨x',h,ho⟩:=h
    have hl':e'.evs.length≤999999999:=by have h1:e'.evs.length≤e.evs.length+1:=hn.ev; have:=hK.ev; omega
    simp only [h,bnd,Bool.not_true,Bool.false_eq_true,if_false,he _ e' hl']
    exact aiS hS
  | j6 =>
   simp only [tpI,tlI,alf hS hT hct (show (9:Int)≤14∧(14:Int)≤15 by decide),aaM,hS.n,hS.a,hS.g,if_true,Int.reduceEq,if_false,afB,abA,aac,bnd]
   rfl
  | j7 =>
   simp only [tpI,tlI,alf hS hT hct (show (9:Int)≤15∧(15:Int)≤15 by decide),aaM,hS.n,hS.a,hS.g,hR,and_self,if_true,Int.reduceEq,if_false,amU,abA,aac,bnd]
   have he2:∀ (x:RunV MV) (m':MemV) (rs:List RecP) (v:Ev),aaH x { e with m:=m',recs:=rs } v=some ((),(x,{ e with m:=m',recs:=rs,evs:=e.evs++[{ v with worker:=x.worker }] },())):=fun x m' rs v =>anW (e:={ e with m:=m',recs:=rs }) hl
   rw [he2,bnd]
   rfl
  | f2 =>
   simp only [tpI,tlI,aiM hS hT hct (show (16:Int)≤17 by decide),aar,hS.n,hS.a,hS.g,if_true,Int.reduceEq,if_false,ata,akz,aac,he _ { e with m:=e.m.cas (ac4 e.l (aas st)) 0 4294967296 } hl,bnd]
   refine aaV.ite (fun _ =>?_) fun _ =>rfl
   exact aiS hS
  | f3 =>
   simp only [tpI,tlI,aiM hS hT hct (show (16:Int)≤18 by decide),aar,hS.n,hS.a,hS.g,if_true,Int.reduceEq,if_false,ata,abG,aac,aix,bnd]
   by_cases h1:wi (wi (e.m.gt (ac4 e.l (aas st)))-1)<0
   ·rw [if_pos h1,if_neg (show ¬ IsT e (wi (wi (e.m.gt (ac4 e.l (aas st)))-1)) from fun h =>by have:=h.1; omega)]
    exact aiS hS
   by_cases h2:e.c.tasks≤wi (wi (e.m.gt (ac4 e.l (aas st)))-1)
   ·rw [if_neg h1,if_pos h2,if_neg (show ¬ IsT e (wi (wi (e.m.gt (ac4 e.l (aas st)))-1)) from fun h =>by have:=h.2; omega)]
    exact aiS hS
   ·rw [if_neg h1,if_neg h2,if_pos (show IsT e (wi (wi (e.m.gt (ac4 e.l (aas st)))-1)) from ⟨by omega,by omega⟩)]
    rfl
  | f4 s =>
   have h:=aBw (w:=w) (t:=wt) hK s
   simp only [aiM hS hT hct (show (16:Int)≤19 by decide)]
   revert h
   simp only [tpI,tlI,aar,hS.n,hS.a,hS.g,if_true,Int.reduceEq,if_false,afw,bnd]
   rcases ad1 w wt e s with ⟨r | ⟨c,y⟩,e'⟩<;>intro h
   ·simp only [aaV] at h
    simp only [h,bnd,Bool.not_false,if_true]
    rfl
   ·simp only [aaV] at h
    obtain ⟨x',h,ho⟩:=h
    simp only [tpI,tlI,h,ho,adQ,bnd,Bool.not_true,Bool.false_eq_true,if_false,if_true,Int.reduceEq,acI,adc,aac]
    by_cases hc:c=3
    ·simp only [hc,if_true]; rfl
    ·simp only [hc,if_false]; rfl
  | f5 v s =>
   have h:=amp (e:=e) (w:=w) (v:=v) hl s
   simp only [aiM hS hT hct (show (16:Int)≤20 by decide)]
   revert h
   simp only [tpI,tlI,aar,hS.n,hS.a,hS.g,if_true,Int.reduceEq,if_false,afw,bnd]
   rcases aej w v e s with ⟨r | ⟨c,y⟩,e'⟩<;>intro h
   ·simp only [aaV] at h
    simp only [h,bnd,Bool.not_false,if_true]
    rfl
   ·simp only [aaV] at h
    obtain ⟨x',h,ho⟩:=h
    simp only [h,ho,adQ,bnd,Bool.not_true,Bool.false_eq_true,if_false]
    exact aiS hS
  | f6 =>
   obtain ⟨x',h,ho⟩:=anv (w:=w) (t:=wt) hl hK.st
   simp only [aiM hS hT hct (show (16:Int)≤21 by decide)]
   simp only [tpI,tlI,aar,hS.n,hS.a,hS.g,hS.s,afw,bnd,h,adQ,Bool.not_true,Bool.false_eq_true,if_false,if_true,Int.reduceEq,aac]
   rcases Bool.eq_false_or_eq_true (acD wt e) with hc | hc
   ·simp only [hc,if_true] at ho ⊢
    simp only [ho,if_true]
    rfl
   ·simp only [hc,Bool.false_eq_true,if_false] at ho ⊢
    simp only [ho,Int.reduceEq,if_false]
    exact aiS hS
 ·rw [if_pos hT]
  have hb:aas st<0∨e.c.tasks≤aas st:=by
   unfold IsT at hT
   omega
  simp only [tpI,tlI,abt,aaw,abi,o0,bnd,hS.n,hS.a,hS.g,if_true,Bool.false_eq_true,if_false]
  rcases hb with hb | hb
  ·rw [if_pos hb]; exact ⟨_,rfl,rfl⟩
  ·by_cases h0:aas st<0
   ·rw [if_pos h0]; exact ⟨_,rfl,rfl⟩
   ·rw [if_neg h0,if_pos hb]; exact ⟨_,rfl,rfl⟩
end
@[reducible] def aEt (l : LayV) (w vi lv x : Int) : WorkC → Int × MV
 | .top =>(0,.nil)
 | .t1 t s =>(1,.sweep (ahG l w t s))
 | .t2 s =>(2,.take (aFu l w s))
 | .t3 s =>(3,.drain (ayo l w s))
 | .t4 s =>(4,.probe (amS w s))
 | .t5 s =>(5,.steal (axv (aaz l vi lv) s))
 | .t6 =>(6,.claim ⟨o0,w,x⟩)
 | .t7 s =>(7,.run (aJ8 l w s))
 | .t8 s =>(8,.sleep (aux w s))
 | .t9 s =>(9,.reset (auI (aaK l vi) lv (aaz l vi lv) s))
@[reducible] def ai6 (l : LayV) (w : Int) (k : WorkS) : WorkerV MV :=
 ⟨w,k.cursor,(aEt l w k.victim k.level k.x k.c).1,(aEt l w k.victim k.level k.x k.c).2,k.victim,k.level,k.x⟩
def aJ6 (K:Nat) (r:RunS):Prop:=r.stack≠[]∧r.stack.length≤K
def ai4 (K:Nat) (n:Int) (k:WorkS):Prop:=match k.c with
 | .t3 s =>aug s
 | .t4 s =>aoI n s
 | .t7 s =>aJ6 K s
 | _ =>True
section
variable [Tb] {K:Nat} {e:EnvP} {w:Int}
theorem ang {j:Nat} {e':EnvP} {r:RunS} (h:Stp j e e'):Stp j e (aha r e').2:=h
theorem aGh {a v t:Int} {r:RecP} (hr:∀ K,(∀ r∈e.recs,r.kids.length≤K)→r.kids.length≤K+1):Stp 0 e ((e.pt 2 a v).pr t r):=Stp.pr (Stp.pt (by decide)) hr
theorem avB {x:RecP} {i:Ins}:(avC x i).kids=x.kids:=by
 unfold avC
 repeat' split
 all_goals rfl
theorem aIo (hK:EOk K e) (r:RunS):Stp 2 e (aui w e r).2:=by
 obtain ⟨st,id,ch,lv,wt,c⟩:=r
 unfold aui
 by_cases hT:IsT e (aas st)
 ·have hR:0≤aas st∧aas st<(e.recs.length:Int):=⟨hT.1,by have:=hT.2; have:=hK.ct; omega⟩
  have hkid:∀ K,(∀ r∈e.recs,r.kids.length≤K)→(e.rc (aas st)).kids.length≤K+1:=fun K h =>Nat.le_succ_of_le (as0 hR K h)
  have hkid1:∀ v:Int,∀ K,(∀ r∈e.recs,r.kids.length≤K)→((e.rc (aas st)).kids++[v]).length≤K+1:=fun v K h =>by
   have:=as0 hR K h
   rw [List.length_append,List.length_singleton]; omega
  rw [if_neg (fun h =>h hT)]
  cases c with
  | next =>
   simp only [aeB,arW]
   split
   ·exact Stp.le (aGh hkid) (Nat.zero_le _)
   split
   ·exact Stp.le (.pt (by decide)) (by decide)
   split
   ·exact Stp.le (Stp.pr Stp.refl fun K h =>by rw [avB]; exact hkid K h) (Nat.zero_le _)
   split
   ·split
    ·exact Stp.le (Stp.pr (Stp.pr aqa (hkid1 _)) fun K h =>Nat.zero_le _) (Nat.zero_le _)
    ·exact Stp.le (Stp.em (Stp.pr aqa (hkid1 _))) (Nat.le_succ 1)
   split
   ·exact Stp.le (Stp.pr Stp.refl hkid) (Nat.zero_le _)
   ·exact Stp.le (aGh hkid) (Nat.zero_le _)
  | s2 s =>
   have h:=asc (e:=e) (t:=id) (v:=lv) s
   revert h
   simp only [aeB]
   rcases afA id lv e s with ⟨r | ⟨c,y⟩,e'⟩<;>intro h
   ·exact h.le (by decide)
   ·exact h.em.le (by decide)
  | s3 s =>
   have h:=aho (e:=e) (w:=w) (v:=lv) (x:=id) s
   revert h
   simp only [aeB]
   rcases abL w lv id e s with ⟨r | ⟨c,y⟩,e'⟩<;>intro h<;>exact h.le (by decide)
  | s4 s =>
   have h:=aqe (e:=e) (w:=w) (v:=lv) s
   revert h
   simp only [aeB]
   rcases aej w lv e s with ⟨r | ⟨c,y⟩,e'⟩<;>intro h<;>exact h.le (by decide)
  | s5 =>exact (anw (w:=w) (t:=id) hK.st).le (by decide)
  | j2 =>exact Stp.le (.pt (by decide)) (by decide)
  | j3 =>
   simp only [aeB]
   split
   ·exact Stp.cas.em.le (by decide)
   ·exact Stp.cas.le (by decide)
  | j4 =>exact Stp.lk.le (by decide)
  | j5 s =>
   have h:=azr (e:=e) (w:=w) (v:=lv) s
   revert h
   simp only [aeB]
   rcases ae9 w lv e s with ⟨r | ⟨c,y⟩,e'⟩<;>intro h
   ·exact h.le (by decide)
   ·exact ang h.em
  | j6 =>exact Stp.le (.pt (by decide)) (by decide)
  | j7 =>exact Stp.le (Stp.em (aGh hkid)) (Nat.le_succ 1)
  | f2 =>
   simp only [aeB]
   split
   ·exact ang (Stp.cas.em.le (by decide))
   ·exact Stp.cas.em.le (by decide)
  | f3 =>
   simp only [aeB]
   split
   ·exact Stp.lk.le (by decide)
   ·exact ang (Stp.lk.le (by decide))
  | f4 s =>
   have h:=aD3 (e:=e) (w:=w) (t:=wt) s
   revert h
   simp only [aeB]
   rcases ad1 w wt e s with ⟨r | ⟨c,y⟩,e'⟩<;>intro h<;>exact h.le (by decide)
  | f5 v s =>
   have h:=aqe (e:=e) (w:=w) (v:=v) s
   revert h
   simp only [aeB]
   rcases aej w v e s with ⟨r | ⟨c,y⟩,e'⟩<;>intro h
   ·exact h.le (by decide)
   ·exact ang (h.le (by decide))
  | f6 =>
   simp only [aeB]
   split
   ·exact (anw (w:=w) (t:=wt) hK.st).le (by decide)
   ·exact ang ((anw (w:=w) (t:=wt) hK.st).le (by decide))
 ·rw [if_pos hT]; exact Stp.refl.le (by decide)
theorem anf {r r':RunS} {e e':EnvP} (hr:r.stack≠[]) (h:aha r e=(.go r',e')):r'.stack≠[]∧r'.stack.length≤r.stack.length+1:=by
 have h1:=List.length_pos_iff.2 hr
 unfold aha at h
 split at h
 ·cases h
 ·cases h
  refine ⟨List.length_pos_iff.1 ?_,?_⟩<;>simp only [List.length_dropLast]<;>omega
theorem aIn {r r':RunS} {e':EnvP} (hr:r.stack≠[]) (h:aui w e r=(.go r',e')):r'.stack≠[]∧r'.stack.length≤r.stack.length+1:=by
 obtain ⟨st,id,ch,lv,wt,c⟩:=r
 have hr:st≠[]:=hr
 have hz:st≠[]∧st.length≤st.length+1:=⟨hr,Nat.le_succ _⟩
 unfold aui at h
 split at h
 ·cases h
 cases c with
 | next =>
  simp only [aeB,arW] at h
  repeat' split at h
  all_goals cases h; exact hz
 | s2 s =>
  simp only [aeB] at h
  split at h<;>cases h<;>exact hz
 | s3 s =>
  simp only [aeB] at h
  split at h<;>cases h<;>exact hz
 | s4 s =>
  simp only [aeB] at h
  split at h<;>cases h<;>exact hz
 | s5 =>
  simp only [aeB] at h
  cases h
  split
  ·refine ⟨by simp,?_⟩
   simp only [List.length_append,List.length_singleton]; omega
  ·exact hz
 | j2 =>cases h; exact hz
 | j3 =>
  simp only [aeB] at h
  split at h<;>cases h<;>exact hz
 | j4 =>cases h; exact hz
 | j5 s =>
  simp only [aeB] at h
  split at h
  ·cases h; exact hz
  ·exact anf hr h
 | j6 =>cases h; exact hz
 | j7 =>cases h; exact hz
 | f2 =>
  simp only [aeB] at h
  split at h
  ·exact anf hr h
  ·cases h; exact hz
 | f3 =>
  simp only [aeB] at h
  split at h
  ·cases h; exact hz
  ·exact anf (r:=⟨st,id,ch,lv,wi (wi (e.gt (ac4 e.l (aas st)))-1),.f3⟩) hr h
 | f4 s =>
  simp only [aeB] at h
  split at h<;>cases h<;>exact hz
 | f5 v s =>
  simp only [aeB] at h
  split at h
  ·cases h; exact hz
  ·exact anf hr h
 | f6 =>
  simp only [aeB] at h
  split at h
  ·cases h
   refine ⟨by simp,?_⟩
   simp only [List.length_append,List.length_singleton,List.length_dropLast]; omega
  ·exact anf hr h
theorem aCM {cur vi lv x:Int}:aaj ⟨w,cur,0,.nil,vi,lv,x⟩ e=aaj (ai6 e.l w ⟨cur,vi,lv,x,abU w e ⟨cur,vi,lv,x,.top⟩⟩) e:=by
 unfold abU
 by_cases ha:e.c.age=0
 ·simp only [ha,if_true,aaj,aeC,aaf,agj,agK,bnd,if_false,Int.reduceEq,aCC,Int.reduceLE,o0]
 ·simp only [ha,if_false,aaj,aeC,aaf,aoF,aod,bnd,if_true,Int.reduceEq,Int.reduceLE,o0]
def ayH (l:LayV) (w:Int) (res:Option ((Bool×Unit)×(WorkerV MV×EnvP×Unit))) (r:WorkS×EnvP):Prop:=res=some ((false,()),(ai6 l w r.1,r.2,()))
theorem ayH.ite {l:LayV} {c:Prop} [Decidable c] {a b:Option ((Bool×Unit)×(WorkerV MV×EnvP×Unit))} {r s:WorkS×EnvP} (h1:c→ayH l w a r) (h2:¬ c→ayH l w b s):ayH l w (if c then a else b) (if c then r else s):=by
 by_cases h:c
 ·rw [if_pos h,if_pos h]; exact h1 h
 ·rw [if_neg h,if_neg h]; exact h2 h
theorem aqc {c:Prop} [Decidable c] {x y:WorkS} {e:EnvP}:((if c then x else y),e)=if c then (x,e) else (y,e):=by split<;>rfl
theorem aun (hK:EOk K e) (hk:K≤100000000) (k:WorkS) (hc:k.c≠.top) (hW:ai4 K (ab9 e) k):ayH e.l w (aaj (ai6 e.l w k) e) (acH w e k):=by
 have hl:e.evs.length≤999999999:=by have:=hK.ev; omega
 obtain ⟨cur,vi,lv,x,c⟩:=k
 cases c with
 | top =>exact absurd rfl hc
 | t1 t s =>
  have h:=azA (w:=w) (t:=t) hK hk s
  revert h
  simp only [acH,abU,aaj,aef,bnd,Int.reduceEq,if_false]
  rcases aa4 w t e s with ⟨r | ⟨c,y⟩,e'⟩<;>intro h
  ·simp only [aaV] at h
   simp only [h,bnd,Bool.not_false,if_true]
   rfl
  ·simp only [aaV] at h
   obtain ⟨x',h,ho⟩:=h
   simp only [h,ho,abE,ab3,aaf,agj,agK,bnd,Bool.not_true,Bool.false_eq_true,if_true,if_false,Int.reduceEq,Int.reduceLE]
   rfl
 | t2 s =>
  have h:=aCB (w:=w) hK hk s
  revert h
  simp only [acH,abU,aaj,aef,bnd,Int.reduceEq,if_false]
  rcases alA w e s with ⟨r | ⟨c,y⟩,e'⟩<;>intro h
  ·simp only [aaV] at h
   simp only [h,bnd,Bool.not_false,if_true]
   rfl
  ·simp only [aaV] at h
   obtain ⟨x',h,ho⟩:=h
   simp only [tpI,tlI,h,ho,abE,ab3,adA,aaf,amL,alv,bnd,Bool.not_true,Bool.false_eq_true,if_true,if_false,Int.reduceEq,Int.reduceLE,acr,aqc]
   exact ayH.ite (fun _ =>rfl) fun _ =>rfl
 | t3 s =>
  have h:=aBz (w:=w) hK hk s hW
  revert h
  simp only [acH,abU,aaj,aef,bnd,Int.reduceEq,if_false]
  rcases abT w e s with ⟨r | ⟨c,y⟩,e'⟩<;>intro h
  ·simp only [aaV] at h
   simp only [h,bnd,Bool.not_false,if_true]
   rfl
  ·simp only [aaV] at h
   obtain ⟨x',h,ho⟩:=h
   simp only [h,ho,abE,ab3,acG,abg,acI,agj,agK,ad0,an8,aaf,bnd,Bool.not_true,Bool.false_eq_true,if_true,if_false,Int.reduceEq,Int.reduceLE,acr,aqc]
   refine ayH.ite (fun _ =>rfl) fun _ =>ayH.ite (fun _ =>rfl) fun _ =>?_
   unfold ay5
   by_cases h1:e'.c.workers=1
   ·rw [if_pos h1,if_pos h1]; rfl
   ·rw [if_neg h1,if_neg h1]; rfl
 | t4 s =>
  have h:=aAh (w:=w) hK.wk s hW
  have hn:=axN (e:=e) (w:=w) s
  revert h hn
  simp only [acH,abU,aaj,aef,bnd,Int.reduceEq,if_false]
  rcases akn w e s with ⟨r | ⟨c,y⟩,e'⟩<;>intro h hn
  ·simp only [aaV] at h
   simp only [h,bnd,Bool.not_false,if_true]
   rfl
  ·simp only [aaV] at h
   obtain ⟨x',h,ho⟩:=h
   have hnl:e'.l=e.l:=hn.l
   simp only [h,ho,abE,ab3,ad5,ad0,akw,aaf,bnd,Bool.not_true,Bool.false_eq_true,if_true,if_false,Int.reduceEq,Int.reduceLE,acr,aqc,hnl]
   exact ayH.ite (fun _ =>rfl) fun _ =>rfl
 | t5 s =>
  have h:=azD (e:=e) (hK.q vi lv) s
  have hn:=axu (e:=e) (q:=aaz e.l vi lv) s
  revert h hn
  simp only [acH,abU,aaj,aef,bnd,Int.reduceEq,if_false]
  rcases aiA (aaz e.l vi lv) e s with ⟨r | ⟨c,y⟩,e'⟩<;>intro h hn
  ·simp only [aaV] at h
   simp only [h,bnd,Bool.not_false,if_true]
   rfl
  ·simp only [aaV] at h
   obtain ⟨x',h,ho⟩:=h
   have hnl:e'.l=e.l:=hn.l
   have hl':e'.evs.length≤999999999:=by have h1:e'.evs.length≤e.evs.length+0:=hn.ev; have:=hK.ev; omega
   simp only [h,ho,abE,aee,acG,aaX,acI,ahW,afi,akw,aco hl',aaf,bnd,Bool.not_true,Bool.false_eq_true,if_true,if_false,Int.reduceEq,Int.reduceLE,acr,hnl]
   exact ayH.ite (fun _ =>by simp only [ayH,EnvP.em,hnl]) fun _ =>ayH.ite (fun _ =>rfl) fun _ =>rfl
 | t6 =>
  obtain ⟨x',h,ho⟩:=anv (w:=w) (t:=x) hl hK.st
  simp only [tpI,tlI,acH,abU,aaj,aef,h,abE,adA,aaX,aaf,amL,bnd,Bool.not_true,Bool.false_eq_true,if_true,if_false,Int.reduceEq,Int.reduceLE]
  rcases Bool.eq_false_or_eq_true (acD x e) with hc | hc
  ·simp only [hc,if_true] at ho ⊢
   simp only [ho,if_true]
   rfl
  ·simp only [hc,Bool.false_eq_true,if_false] at ho ⊢
   simp only [ho,Int.reduceEq,if_false]
   rfl
 | t7 s =>
  have h:=aF0 (w:=w) hK hk s ⟨hW.1,by have:=hW.2; omega⟩
  revert h
  simp only [acH,abU,aaj,aef,bnd,Int.reduceEq,if_false]
  rcases aui w e s with ⟨r | ⟨c,y⟩,e'⟩<;>intro h
  ·simp only [aaV] at h
   simp only [h,bnd,Bool.not_false,if_true]
   rfl
  ·simp only [aaV] at h
   obtain ⟨x',h,ho⟩:=h
   simp only [h,ho,abE,aaX,bnd,Bool.not_true,Bool.false_eq_true,if_true,if_false,Int.reduceEq,Int.reduceLE]
   rfl
 | t8 s =>
  have h:=azM (w:=w) hl s
  revert h
  simp only [acH,abU,aaj,aef,bnd,Int.reduceEq,if_false]
  rcases agD w e s with ⟨r | ⟨c,y⟩,e'⟩<;>intro h
  ·simp only [aaV] at h
   simp only [h,bnd,Bool.not_false,if_true]
   rfl
  ·simp only [aaV] at h
   obtain ⟨x',h,ho⟩:=h
   simp only [h,ho,abE,aaX,bnd,Bool.not_true,Bool.false_eq_true,if_true,if_false,Int.reduceEq,Int.reduceLE]
   rfl
 | t9 s =>
  have h:=auH (e:=e) (a:=aaK e.l vi) (b:=lv) (q:=aaz e.l vi lv) s
  revert h
  simp only [acH,abU,aaj,aef,bnd,Int.reduceEq,if_false]
  rcases agE (aaK e.l vi) lv (aaz e.l vi lv) e s with ⟨r | ⟨c,y⟩,e'⟩<;>intro h
  ·simp only [aaV] at h
   simp only [h,bnd,Bool.not_false,if_true]
   rfl
  ·simp only [aaV] at h
   obtain ⟨x',h,ho⟩:=h
   simp only [h,ho,abE,aaX,bnd,Bool.not_true,Bool.false_eq_true,if_true,if_false,Int.reduceEq,Int.reduceLE]
   rfl
theorem aqd {k:WorkS}:abU w e k≠.top:=by
 unfold abU
 split
 ·split<;>intro h<;>cases h
 ·rename_i h
  intro h2
  exact h h2
theorem aCu (hK:EOk K e) (hk:K≤100000000) (k:WorkS) (hW:ai4 K (ab9 e) k):ayH e.l w (aaj (ai6 e.l w k) e) (acH w e k):=by
 obtain ⟨cur,vi,lv,x,c⟩:=k
 cases c with
 | top =>
  have h1:=aun (w:=w) hK hk ⟨cur,vi,lv,x,abU w e ⟨cur,vi,lv,x,.top⟩⟩ (show abU w e ⟨cur,vi,lv,x,.top⟩≠.top from aqd) (by
   unfold abU
   simp only
   split<;>trivial)
  have h2:acH w e ⟨cur,vi,lv,x,abU w e ⟨cur,vi,lv,x,.top⟩⟩=acH w e ⟨cur,vi,lv,x,.top⟩:=by
   unfold abU
   simp only
   by_cases ha:e.c.age=0
   ·simp only [acH,abU,ha,if_true]
   ·simp only [acH,abU,ha,if_false]
  rw [h2] at h1
  unfold ayH at h1 ⊢
  rw [← h1]
  exact aCM
 | _ =>exact aun hK hk _ (fun h =>by cases h) hW
end
end
end Go.Proofs.YteapeojalliebaaGreat
