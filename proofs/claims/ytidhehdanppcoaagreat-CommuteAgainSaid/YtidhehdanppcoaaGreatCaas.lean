/- The canonical order of the canonical order. CommuteAgain by names. CommuteAgain by names. CommuteAgain by names. CommuteAgain by names. CommuteAgain answers true. -/
import Derived.Test.YtidhehdanppcoaaGreatCaar
set_option linter.all false
namespace Go.Proofs.YtidhehdanppcoaaGreat
section
open Go Go.RowKit
set_option maxRecDepth 100000
variable [Tb]
theorem awC {A B:Type}:∀ {l m:List (A×B)},l.map Prod.fst=m.map Prod.fst→l.map Prod.snd=m.map Prod.snd→l=m
 | [],[],_,_ =>rfl
 | [],_::_,h,_ =>by cases h
 | _::_,[],h,_ =>by cases h
 | (a,b)::l,(a',b')::m,h1,h2 =>by
  obtain ⟨e1,e2⟩:=List.cons.inj h1
  obtain ⟨f1,f2⟩:=List.cons.inj h2
  have e1:a=a':=e1
  have f1:b=b':=f1
  rw [e1,f1,awC e2 f2]
theorem awZ {σ A:Type} {st:Nat→σ→σ} {ac:Nat→σ→A}:∀ {ms:List Nat} {s:σ},(anC st ac ms s).map Prod.fst=ms
 | [],_ =>rfl
 | m::ms,s =>congrArg (m::·) (awZ (ms:=ms))
theorem aoj {α β:Type} {d:α} {l:List α} {f:α→β}:((List.range l.length).map fun i =>f (atL d l ((i:Nat):Int)))=l.map f:=by
 refine List.ext_getElem (by simp) fun i h1 h2 =>?_
 rw [List.length_map] at h2
 rw [List.getElem_map,List.getElem_map,List.getElem_range]
 have:=ae0 (d:=d) (xs:=l) (i:=(i:Int)) ⟨by omega,by omega⟩
 rw [Int.toNat_natCast,List.getElem?_eq_getElem h2] at this
 rw [Option.some.inj this]
theorem aGG {α β:Type} {d:α} {d':β} {l:List α} {f:α→β} {i:Nat} (h:i<l.length):atL d' (l.map f) (i:Int)=f (atL d l (i:Int)):=by
 unfold atL
 rw [Int.toNat_natCast,List.getElem?_map,List.getElem?_eq_getElem h]
 rfl
theorem aAz {A:Type} {ind:A→A→Prop} {n:Nat} {L L':Nat→Nat×A} {ch:List Nat} (h:∀ i,i<n→L i=L' i) (hc:Chs n (fun i =>(L i).1) (dpL ind L) ch):Chs n (fun i =>(L' i).1) (dpL ind L') ch:=fun pre x post e =>by
 have av:∀ y,Av n (dpL ind L) pre y↔Av n (dpL ind L') pre y:=fun y =>by
  unfold Av dpL
  constructor
  ·rintro ⟨h1,h2,h3⟩
   exact ⟨h1,h2,fun i hi k =>h3 i hi (by rw [h i (by omega),h y h1]; exact k)⟩
  ·rintro ⟨h1,h2,h3⟩
   exact ⟨h1,h2,fun i hi k =>h3 i hi (by rw [← h i (by omega),← h y h1]; exact k)⟩
 obtain ⟨b1,b2⟩:=hc pre x post e
 refine ⟨(av x).1 b1,fun j hj =>?_⟩
 have:=b2 j ((av j).2 hj)
 have e1:=h x b1.1
 have e2:=h j hj.1
 show (L' x).1<(L' j).1∨((L' x).1=(L' j).1∧x≤j)
 rw [← e1,← e2]
 exact this
section
variable {c:Cfg} {N n:Nat} {g:EgC} {acs:List AccV} {y2:List Int}
theorem azP (h:acs.map ak1=lAt c y2 g y2.length):acs.length=y2.length∧anC (aht c) (auE c) ((List.range y2.length).map fun i =>(Lb c acs y2 i).1) g=(List.range y2.length).map (Lb c acs y2)∧((List.range y2.length).map fun i =>(Lb c acs y2 i).1)=y2.map (mcN c):=by
 have e0:lAt c y2 g y2.length=(anC (aht c) (auE c) (y2.map (mcN c)) g).map Prod.snd:=by unfold lAt; rw [List.take_length]
 rw [e0] at h
 have hl:acs.length=y2.length:=by
  have:=congrArg List.length h
  rw [List.length_map,List.length_map,aio,List.length_map] at this
  exact this
 have e1:((List.range y2.length).map fun i =>(Lb c acs y2 i).1)=y2.map (mcN c):=aoj (d:=(dfR 1:TR 1)) (f:=mcN c)
 have e2:((List.range y2.length).map fun i =>(Lb c acs y2 i).2)=acs.map ak1:=by
  rw [← hl]
  exact aoj (d:=(dfR 60:TR 60)) (f:=ak1)
 refine ⟨hl,awC ?_ ?_,e1⟩
 ·rw [awZ,List.map_map]; rfl
 ·rw [List.map_map]
  refine Eq.trans ?_ e2.symm
  rw [e1,h]
theorem azG {m:Nat} (h:(m:Int)≤c.workers):mcN c (m:Int)=m:=by
 unfold mcN
 rw [Int.emod_eq_of_lt (by omega) (by omega)]
 omega
theorem aoD {P:List Int→Option ((List AccV×Int×Unit)×Unit)} (hw:1≤c.workers∧c.workers≤1000) (hg:GIn c N g) (hN:N+64≤100000) (hP:∀ y2:List Int,y2.length≤64→∃ acs:List AccV,P y2=some ((acs,0,()),())∧acs.map ak1=lAt c y2 g y2.length) (h64:y2.length≤64) :
  aaB ((P y2).bind (aDi c y2)) fun r5 =>(r5.1.2.1=0∧r5.1.1.Perm (y2.map fun v =>((mcN c v:Nat):Int)))∧aaB ((P r5.1.1).bind (aDi c r5.1.1)) fun r6 =>r6.1.2.1=0∧r6.1.1=r5.1.1:=by
 obtain ⟨acs,e1,k1⟩:=hP y2 h64
 obtain ⟨hl,hL,hM⟩:=azP k1
 rw [e1,bnd]
 refine (aAJ hw h64 hl).mono fun o ho =>?_
 obtain ⟨⟨out,er,⟨⟩⟩,⟨⟩⟩:=o
 obtain ⟨h0,ch,hc,hn,ho⟩:=ho
 have ho:out=ch.map fun i =>((Lb c acs y2 i).1:Int):=ho
 have hW:∀ i,(Lb c acs y2 i).1≤c.workers.toNat:=fun i =>azF (by omega)
 obtain ⟨c1,_,c3⟩:=aAH (aKI c) hc (fun i _ =>hW i) hn hg (by omega) hL
 have hol:out.length=y2.length:=by rw [ho,List.length_map,hn]
 refine ⟨⟨h0,?_⟩,?_⟩
 ·show out.Perm _
  have e:(y2.map fun v =>((mcN c v:Nat):Int))=(List.range y2.length).map fun i =>((Lb c acs y2 i).1:Int):=(aoj (d:=(dfR 1:TR 1)) (f:=fun v =>((mcN c v:Nat):Int))).symm
  rw [ho,e]
  exact (c3.map _).symm
 ·show aaB ((P out).bind (aDi c out)) fun r6 =>r6.1.2.1=0∧r6.1.1=out
  obtain ⟨acs',e2,k2⟩:=hP out (by omega)
  obtain ⟨hl',hL',hM'⟩:=azP k2
  rw [e2,bnd]
  refine (aAJ hw (by omega) hl').mono fun o' ho' =>?_
  obtain ⟨⟨out',er',⟨⟩⟩,⟨⟩⟩:=o'
  obtain ⟨h0',ch2,hc2,hn2,ho'⟩:=ho'
  have ho':out'=ch2.map fun i =>((Lb c acs' out i).1:Int):=ho'
  refine ⟨h0',?_⟩
  show out'=out
  have em:out.map (mcN c)=ch.map fun i =>(Lb c acs y2 i).1:=by
   rw [ho,List.map_map]
   exact List.map_congr_left fun i _ =>azG (by have:=hW i; omega)
  have el:(List.range y2.length).map (Lb c acs' out)=ch.map (Lb c acs y2):=by
   rw [← c1,← em,← hM',hL',hol]
  have eL:∀ i,i<y2.length→Lb c acs' out i=Lb c acs y2 (ch.getD i 0):=fun i hi =>by
   have q1:((List.range y2.length).map (Lb c acs' out))[i]?=some (Lb c acs' out i):=by
    rw [List.getElem?_map,List.getElem?_range hi]; rfl
   rw [el,List.getElem?_map,List.getElem?_eq_getElem (by omega)] at q1
   have q2:ch.getD i 0=ch[i]:=by rw [List.getD_eq_getElem?_getD,List.getElem?_eq_getElem (by omega)]; rfl
   rw [q2]
   exact (Option.some.inj q1).symm
  rw [hol] at hc2 hn2
  have hc2':=aAz (L':=fun i =>Lb c acs y2 (ch.getD i 0)) eL hc2
  have ag:=ap6 hc c3 hc2' ch2.length (Nat.le_refl _)
  rw [List.take_length,hn2] at ag
  rw [ho',ag]
  have er:((List.range y2.length).map fun i =>((Lb c acs' out i).1:Int))=(List.range out.length).map fun i:Nat =>((mcN c (abn out (i:Int)):Nat):Int):=by rw [hol]; rfl
  rw [er]
  refine (aoj (α:=Int) (d:=(dfR 1:TR 1)) (f:=fun v =>((mcN c v:Nat):Int))).trans ?_
  rw [ho,List.map_map]
  exact List.map_congr_left fun i _ =>congrArg Int.ofNat (azG (by have:=hW i; omega))
theorem azT (l:List Int) (hl:l.length≤1000000):aaB (acQ l l) fun o =>o.1.1=true:=by
 unfold acQ
 rw [if_neg (fun h =>h rfl)]
 refine aaB.bind (P:=fun z =>∃ u,z=.inl u) (acm (fun x =>0≤x.1∧x.1≤(l.length:Int)) (fun x =>((l.length:Int)-x.1).toNat) (fun self x hx ih =>?_) _ _ ⟨Int.le_refl 0,by show (0:Int)≤_; omega⟩ (by show ((l.length:Int)-0).toNat<_; omega)) fun z hz =>?_
 ·obtain ⟨i,⟨⟩⟩:=x
  obtain ⟨q1,q2⟩:=hx
  simp only at q1 q2
  have e1:wi (i+1)=i+1:=aaM (aas (by omega))
  refine aaB.ite (fun hlt =>?_) fun _ =>.some_ ⟨_,rfl⟩
  have hlt:i<(l.length:Int):=hlt
  refine .guard ⟨q1,hlt⟩ fun _ =>.guard ⟨q1,hlt⟩ fun _ =>aaB.ite (fun h =>absurd rfl h) fun _ =>?_
  show aaB (self (wi (i+1),())) _
  rw [e1]
  exact ih _ ⟨by show 0≤i+1; omega,by show i+1≤_; omega⟩ (by show (_-(i+1):Int).toNat<(_-i:Int).toNat; omega)
 ·obtain ⟨u,rfl⟩:=hz
  exact .some_ rfl
theorem aqX {l:List Int} {i w:Int} (hi:0≤i∧i<(l.length:Int)):(((l.take (i+1).toNat).count w:Nat):Int)=(((l.take i.toNat).count w:Nat):Int)+(if abn l i=w then 1 else 0):=by
 rw [auM hi,List.count_append,List.count_singleton]
 by_cases h:abn l i=w
 ·rw [if_pos h,if_pos (beq_iff_eq.2 h)]; omega
 ·rw [if_neg h,if_neg (fun k =>h (beq_iff_eq.1 k))]; omega
theorem aDp {p q:List Int} (hw:1≤c.workers∧c.workers≤1000) (h64:y2.length≤64) (hq:q=y2.map fun v =>((mcN c v:Nat):Int)) (hp:p.Perm q) {z0:List Int} (hz:z0=List.replicate (c.workers+1).toNat 0) :
  aaB (lpF (aGJ c p y2) 18446744073709551616 (0,z0,())) fun z =>∃ u l,z=.inl (u,l,())∧l.length=(c.workers+1).toNat∧∀ w,0≤w→w<c.workers+1→abn l w=0:=by
 have hql:q.length=y2.length:=by rw [hq,List.length_map]
 have hpl:p.length=y2.length:=hp.length_eq.trans hql
 have rgp:∀ v∈p,0≤v∧v<c.workers+1:=fun v hv =>by
  have:=hp.mem_iff.1 hv
  rw [hq] at this
  obtain ⟨u,_,rfl⟩:=List.mem_map.1 this
  have:=azF (c:=c) (v:=u) (by omega)
  omega
 refine acm (fun x =>(0≤x.1∧x.1≤(y2.length:Int))∧x.2.1.length=(c.workers+1).toNat∧∀ w,0≤w→w<c.workers+1→abn x.2.1 w=(((p.take x.1.toNat).count w:Nat):Int)-(((q.take x.1.toNat).count w:Nat):Int)) (fun x =>((y2.length:Int)-x.1).toNat) (fun self x hx ih =>?_) _ _ ?init (by show ((y2.length:Int)-0).toNat<_; omega)
 case init =>
  refine ⟨⟨Int.le_refl 0,by show (0:Int)≤_; omega⟩,by rw [hz]; exact List.length_replicate,fun w h0 h1 =>?_⟩
  have hl:(z0.length:Int)=c.workers+1:=by rw [hz,List.length_replicate]; omega
  have:abn z0 w∈z0:=asD (α:=Int) (d:=(dfR 1:TR 1)) ⟨h0,by omega⟩
  rw [hz] at this
  show abn z0 w=_
  rw [hz,List.eq_of_mem_replicate this]
  rfl
 obtain ⟨i,l,⟨⟩⟩:=x
 obtain ⟨⟨q1,q2⟩,hl,hc⟩:=hx
 simp only at q1 q2 hl hc
 have e1:wi (i+1)=i+1:=aaM (aas (by omega))
 unfold aGJ
 refine aaB.ite (fun hlt =>?_) fun hge =>.some_ ?_
 ·have hlt:i<(p.length:Int):=hlt
  have hi:0≤i∧i<(p.length:Int):=⟨q1,hlt⟩
  have hin:abn p i∈p:=asD (α:=Int) (d:=(dfR 1:TR 1)) hi
  have hr:=rgp _ hin
  refine .guard hi fun _ =>aaB.ite (fun h =>absurd h (by show ¬ abn p i<0; omega)) fun _ =>.guard hi fun _ =>aaB.ite (fun h =>absurd h (by show ¬ c.workers<abn p i; omega)) fun _ =>.guard hi fun _ =>?_
  refine .guard (by show 0≤abn p i∧abn p i<((l.length:Nat):Int); omega) fun _ =>.guard (by show 0≤abn p i∧abn p i<((l.length:Nat):Int); omega) fun _ =>.guard (by show 0≤i∧i<_; omega) fun _ =>?_
  rw [aaM (x:=c.workers+1) (aas (by omega))]
  refine (aGo (by omega)).bind fun r hr2 =>?_
  have hm:=apx (c:=c) (v:=abn y2 i) (by omega)
  simp only at hr2
  have eq:abn q i=abn y2 i % (c.workers+1):=by
   have:=aGG (α:=Int) (β:=Int) (d:=(dfR 1:TR 1)) (d':=(dfR 1:TR 1)) (l:=y2) (f:=fun v =>((mcN c v:Nat):Int)) (i:=i.toNat) (by omega)
   rw [← hq,Int.toNat_of_nonneg q1] at this
   refine Eq.trans this ?_
   show ((mcN c (abn y2 i):Nat):Int)=_
   unfold mcN; omega
  simp only [List.length_set]
  rw [hr2,← eq]
  have hrq:0≤abn q i∧abn q i<c.workers+1:=by rw [eq]; exact hm
  refine .guard (by omega) fun _ =>.guard (by omega) fun _ =>?_
  have hiq:0≤i∧i<(q.length:Int):=by omega
  have bp:∀ w,(((p.take i.toNat).count w:Nat):Int)≤64:=fun w =>by
   have:=List.count_le_length (a:=w) (l:=p.take i.toNat)
   rw [List.length_take] at this; omega
  have bq:∀ w,(((q.take i.toNat).count w:Nat):Int)≤64:=fun w =>by
   have:=List.count_le_length (a:=w) (l:=q.take i.toNat)
   rw [List.length_take] at this; omega
  show aaB (self (wi (i+1),_,())) _
  rw [e1]
  have stK:∀ {l:List Int} {a w v:Int},0≤a→a<(l.length:Int)→0≤w→abn (l.set a.toNat v) w=if w=a then v else abn l w:=fun {l a w v} h1 h2 h3 =>by
   have:=aHg (l:=l) (j:=a.toNat) (v:=v) (by omega) (i:=w.toNat)
   rw [Int.toNat_of_nonneg h3] at this
   rw [this]
   by_cases e:w=a
   ·rw [if_pos (by omega),if_pos e]
   ·rw [if_neg (by omega),if_neg e]
  refine ih _ ⟨⟨by show 0≤i+1; omega,by show i+1≤_; omega⟩,by rw [List.length_set,List.length_set]; exact hl,fun w w0 w1 =>?_⟩ (by show (_-(i+1):Int).toNat<(_-i:Int).toNat; omega)
  show abn ((l.set _ _).set _ _) w=(((p.take (i+1).toNat).count w:Nat):Int)-(((q.take (i+1).toNat).count w:Nat):Int)
  rw [aqX hi,aqX hiq,stK hrq.1 (by rw [List.length_set]; omega) w0,stK hr.1 (by omega) w0,stK hr.1 (by omega) hrq.1,hc w w0 w1,hc _ hr.1 hr.2,hc _ hrq.1 hrq.2]
  have b1:=bp (abn p i)
  have b2:=bq (abn p i)
  have b3:=bp (abn q i)
  have b4:=bq (abn q i)
  rw [aaM (x:=(((p.take i.toNat).count (abn p i):Nat):Int)-_+1) (aas (by omega))]
  by_cases k1:w=abn p i
  ·by_cases k2:w=abn q i
   ·rw [if_pos k2,if_pos (by omega),aaM (aas (by omega)),if_pos k1.symm,if_pos k2.symm,k1]; omega
   ·rw [if_neg k2,if_pos k1,if_pos k1.symm,if_neg (fun k =>k2 k.symm),k1]; omega
  ·by_cases k2:w=abn q i
   ·rw [if_pos k2,if_neg (by omega),aaM (aas (by omega)),if_neg (fun k =>k1 k.symm),if_pos k2.symm,k2]; omega
   ·rw [if_neg k2,if_neg k1,if_neg (fun k =>k1 k.symm),if_neg (fun k =>k2 k.symm)]; omega
 ·have hge:¬ i<(p.length:Int):=hge
  refine ⟨_,_,rfl,hl,fun w w0 w1 =>?_⟩
  rw [hc w w0 w1,List.take_of_length_le (by omega),List.take_of_length_le (by omega),hp.count_eq]
  omega
theorem aDo {l:List Int} {m:Int} (hm:0≤m∧m≤1000000) (hl:l.length=m.toNat) (h:∀ w,0≤w→w<m→abn l w=0):aaB (lpF (aGI l) 18446744073709551616 (0,())) fun z =>∃ u,z=.inl u:=by
 refine acm (fun x =>0≤x.1∧x.1≤(l.length:Int)) (fun x =>((l.length:Int)-x.1).toNat) (fun self x hx ih =>?_) _ _ ⟨Int.le_refl 0,by show (0:Int)≤_; omega⟩ (by show ((l.length:Int)-0).toNat<_; omega)
 obtain ⟨i,⟨⟩⟩:=x
 obtain ⟨q1,q2⟩:=hx
 simp only at q1 q2
 have e1:wi (i+1)=i+1:=aaM (aas (by omega))
 unfold aGI
 refine aaB.ite (fun hlt =>?_) fun _ =>.some_ ⟨_,rfl⟩
 have hlt:i<(l.length:Int):=hlt
 refine .guard ⟨q1,hlt⟩ fun _ =>aaB.ite (fun k =>absurd (h i q1 (by omega)) k) fun _ =>?_
 show aaB (self (wi (i+1),())) _
 rw [e1]
 exact ih _ ⟨by show 0≤i+1; omega,by show i+1≤_; omega⟩ (by show (_-(i+1):Int).toNat<(_-i:Int).toNat; omega)
theorem amn {r5 r6:(List Int×Int×Unit)×Unit} (hw:1≤c.workers∧c.workers≤1000) (h64:y2.length≤64) (h5:r5.1.2.1=0∧r5.1.1.Perm (y2.map fun v =>((mcN c v:Nat):Int))) (h6:r6.1.2.1=0∧r6.1.1=r5.1.1):aaB (aq6 c y2 r5 r6) fun r =>r.1.1=true:=by
 have hpl:r5.1.1.length=y2.length:=by rw [h5.2.length_eq,List.length_map]
 have ew:wi (c.workers+1)=c.workers+1:=aaM (aas (by omega))
 unfold aq6
 rw [if_neg (by decide),if_neg (fun k =>k h5.1),if_neg (fun k =>k h6.1),h6.2,ew]
 refine (azT _ (by omega)).bind fun r hr =>?_
 rw [hr,if_neg (by decide),if_neg (fun k =>k (by omega)),if_pos rfl]
 refine .guard (by omega) fun _ =>(aDp hw h64 rfl h5.2 rfl).bind fun z hz =>?_
 obtain ⟨u,l,rfl,hl,hz⟩:=hz
 refine (aDo (by omega) hl hz).bind fun z hz =>?_
 obtain ⟨v,rfl⟩:=hz
 exact .some_ rfl
end
noncomputable def aJF (c:Cfg) (y2:List Int) (l:List EntV):Option ((Bool×Unit)×(Unit)) :=
 (ad6 c l y2).bind fun r5 =>
 (ad6 c l r5.1.1).bind fun r6 =>aq6 c y2 r5 r6
noncomputable def abb (y0:List Int) (y1:List Int) (y2:List Int) (y3:Bool):Option ((Bool×Unit)×(Unit)) :=
 (apH y0 ([])).bind fun r1 =>
 if (!r1.1.1)=true then some ((true,()),())
 else
 if 600<((y1.length:Nat):Int) then some ((true,()),())
 else
 if 64<((y2.length:Nat):Int) then some ((true,()),())
 else
 (afZ y0).bind fun r2 =>
 (akP y1 300).bind fun r3 =>
 if y3=true then
 (abr r2.1.1).bind fun r4 =>
 if (((r4.1.1.length+r3.1.1.length:Nat)):Int)<1000000000000 then
 aJF r2.1.1 y2 (r4.1.1++r3.1.1)
 else none
 else
 aJF r2.1.1 y2 r3.1.1
noncomputable abbrev afU:Con SR1:=⟨3,[.sh (.ro 17),.sh (.ro 17),.sh (.ro 1),.sh .b],[.sh .b],fun x =>abb x.1 x.2.1 x.2.2.1 x.2.2.2.1⟩
theorem afx:CO Tryz.prog afU:=aan aak Tryz.func3 [alW,ahX,aju,ab7,agO,ab6,abP,acn] ⟨alV,ahW,aj1,acK,ako,acJ,ab5,acR,trivial⟩ [(13,.loopR [.rg 16 sI_,.rg 15 (.row 1)] 18446744073709551616 0),(20,.loopR [.rg 17 sI_] 18446744073709551616 2)]
noncomputable def aJE (c:Cfg) (y2:List Int) (l:List EntV):Option ((Bool×Unit)×(Unit)) :=
 (adi c l y2).bind fun r5 =>
 (adi c l r5.1.1).bind fun r6 =>aq6 c y2 r5 r6
noncomputable def abG (y0:List Int) (y1:List Int) (y2:List Int) (y3:Bool):Option ((Bool×Unit)×(Unit)) :=
 (apH y0 ([])).bind fun r1 =>
 if (!r1.1.1)=true then some ((true,()),())
 else
 if 600<((y1.length:Nat):Int) then some ((true,()),())
 else
 if 64<((y2.length:Nat):Int) then some ((true,()),())
 else
 (afZ y0).bind fun r2 =>
 (akP y1 300).bind fun r3 =>
 if y3=true then
 (abr r2.1.1).bind fun r4 =>
 if (((r4.1.1.length+r3.1.1.length:Nat)):Int)<1000000000000 then
 aJE r2.1.1 y2 (r4.1.1++r3.1.1)
 else none
 else
 aJE r2.1.1 y2 r3.1.1
noncomputable abbrev afT:Con SR1:=⟨3,[.sh (.ro 17),.sh (.ro 17),.sh (.ro 1),.sh .b],[.sh .b],fun x =>abG x.1 x.2.1 x.2.2.1 x.2.2.2.1⟩
theorem afw:CO Tryz.prog afT:=aan aak Tryz.func3 [alW,ahX,aju,ab7,aex,ab6,abP,acn] ⟨alV,ahW,aj1,acK,af8,acJ,ab5,acR,trivial⟩ [(13,.loopR [.rg 16 sI_,.rg 15 (.row 1)] 18446744073709551616 0),(20,.loopR [.rg 17 sI_] 18446744073709551616 2)]
noncomputable def aJD (c:Cfg) (y2:List Int) (l:List EntV):Option ((Bool×Unit)×(Unit)) :=
 (ad5 c l y2).bind fun r5 =>
 (ad5 c l r5.1.1).bind fun r6 =>aq6 c y2 r5 r6
noncomputable def abF (y0:List Int) (y1:List Int) (y2:List Int) (y3:Bool):Option ((Bool×Unit)×(Unit)) :=
 (apH y0 ([])).bind fun r1 =>
 if (!r1.1.1)=true then some ((true,()),())
 else
 if 600<((y1.length:Nat):Int) then some ((true,()),())
 else
 if 64<((y2.length:Nat):Int) then some ((true,()),())
 else
 (afZ y0).bind fun r2 =>
 (akP y1 300).bind fun r3 =>
 if y3=true then
 (abr r2.1.1).bind fun r4 =>
 if (((r4.1.1.length+r3.1.1.length:Nat)):Int)<1000000000000 then
 aJD r2.1.1 y2 (r4.1.1++r3.1.1)
 else none
 else
 aJD r2.1.1 y2 r3.1.1
noncomputable abbrev afS:Con SR1:=⟨3,[.sh (.ro 17),.sh (.ro 17),.sh (.ro 1),.sh .b],[.sh .b],fun x =>abF x.1 x.2.1 x.2.2.1 x.2.2.2.1⟩
theorem afv:CO Tryz.prog afS:=aan aak Tryz.func3 [alW,ahX,aju,ab7,agN,ab6,abP,acn] ⟨alV,ahW,aj1,acK,akn,acJ,ab5,acR,trivial⟩ [(13,.loopR [.rg 16 sI_,.rg 15 (.row 1)] 18446744073709551616 0),(20,.loopR [.rg 17 sI_] 18446744073709551616 2)]
noncomputable def aJC (c:Cfg) (y2:List Int) (l:List EntV):Option ((Bool×Unit)×(Unit)) :=
 (ad4 c l y2).bind fun r5 =>
 (ad4 c l r5.1.1).bind fun r6 =>aq6 c y2 r5 r6
noncomputable def abE (y0:List Int) (y1:List Int) (y2:List Int) (y3:Bool):Option ((Bool×Unit)×(Unit)) :=
 (apH y0 ([])).bind fun r1 =>
 if (!r1.1.1)=true then some ((true,()),())
 else
 if 600<((y1.length:Nat):Int) then some ((true,()),())
 else
 if 64<((y2.length:Nat):Int) then some ((true,()),())
 else
 (afZ y0).bind fun r2 =>
 (akP y1 300).bind fun r3 =>
 if y3=true then
 (abr r2.1.1).bind fun r4 =>
 if (((r4.1.1.length+r3.1.1.length:Nat)):Int)<1000000000000 then
 aJC r2.1.1 y2 (r4.1.1++r3.1.1)
 else none
 else
 aJC r2.1.1 y2 r3.1.1
noncomputable abbrev afR:Con SR1:=⟨3,[.sh (.ro 17),.sh (.ro 17),.sh (.ro 1),.sh .b],[.sh .b],fun x =>abE x.1 x.2.1 x.2.2.1 x.2.2.2.1⟩
theorem afu:CO Tryz.prog afR:=aan aak Tryz.func3 [alW,ahX,aju,ab7,agM,ab6,abP,acn] ⟨alV,ahW,aj1,acK,akm,acJ,ab5,acR,trivial⟩ [(13,.loopR [.rg 16 sI_,.rg 15 (.row 1)] 18446744073709551616 0),(20,.loopR [.rg 17 sI_] 18446744073709551616 2)]
theorem ajY {c:Cfg} (h:DecOk c):aaB (abr c) fun o =>o.1.1.length≤200:=by
 have hs:=h.sn
 have e0:wi (40*((c.subs.length:Nat):Int))=40*(c.subs.length:Int):=aaM (aas (by omega))
 unfold abr
 refine aaB.bind (P:=fun z =>z.1.length≤200) (acm (fun x =>0≤x.2.1∧(x.1.length:Int)≤x.2.1∧x.2.1≤40*(c.subs.length:Int)) (fun x =>(40*(c.subs.length:Int)-x.2.1).toNat) (fun self x hx ih =>?istep) _ _ ⟨Int.le_refl 0,Int.le_refl 0,by show (0:Int)≤_; omega⟩ (by show (_-0:Int).toNat<_; omega)) fun z hz =>.some_ hz
 case istep =>
  obtain ⟨q0,q1,q2⟩:=hx
  have e1:wi (x.2.1+1)=x.2.1+1:=aaM (aas (by omega))
  rw [e0,e1]
  refine aaB.ite (fun hlt =>?_) fun _ =>.some_ (by show x.1.length≤200; omega)
  unfold ae9
  rw [bnd]
  refine .guard (by simp only [List.length_singleton]; omega) fun _ =>ih _ ⟨by show 0≤x.2.1+1; omega,?_,by show x.2.1+1≤_; omega⟩ (by show (_-(x.2.1+1):Int).toNat<(_-x.2.1:Int).toNat; omega)
  show ((x.1++[_]).length:Int)≤x.2.1+1
  rw [List.length_append,List.length_singleton]
  omega
theorem aus {c:Cfg} {y2:List Int} {l:List EntV} (ho:DecOk c) (hw:c.workers=(((1:Nat):Int))) (h64:y2.length≤64) (hl:l.length≤600):aaB (aJF c y2 l) fun r =>r.1.1=true:=by
 obtain ⟨g,hg,hP⟩:=au6 (y1:=l) ho hw (by omega)
 unfold aJF ad6
 refine (aoD (P:=adZ c l) (by omega) hg (by omega) hP h64).bind fun r5 h5 =>h5.2.bind fun r6 h6 =>amn (by omega) h64 h5.1 h6
theorem aDt {y0 y1 y2:List Int} {y3:Bool} {o:(Cfg×Unit)×Unit} (e:afZ y0=some o) (ho:DecOk o.1.1) (hw:o.1.1.workers=(((1:Nat):Int))):aaB (abb y0 y1 y2 y3) fun r =>r.1.1=true:=by
 obtain ⟨⟨c,⟨⟩⟩,⟨⟩⟩:=o
 simp only at ho hw
 unfold abb
 refine (ahF y0 [] (by simp)).bind fun r hr =>aaB.ite (fun _ =>.some_ rfl) fun hb =>aaB.ite (fun _ =>.some_ rfl) fun hlen =>aaB.ite (fun _ =>.some_ rfl) fun h64 =>?_
 rw [e,bnd]
 refine (ajR (b:=y1) (n:=300) (by omega) (by decide)).bind fun r4 h4 =>?_
 have h4:r4.1.1.length≤300:=h4
 refine aaB.ite (fun _ =>(ajY ho).bind fun r3 h3 =>?_) fun _ =>aus ho hw (by omega) (by omega)
 have h3:r3.1.1.length≤200:=h3
 exact .guard (by omega) fun _ =>aus ho hw (by omega) (by rw [List.length_append]; omega)
theorem aur {c:Cfg} {y2:List Int} {l:List EntV} (ho:DecOk c) (hw:c.workers=(((2:Nat):Int))) (h64:y2.length≤64) (hl:l.length≤600):aaB (aJE c y2 l) fun r =>r.1.1=true:=by
 obtain ⟨g,hg,hP⟩:=au5 (y1:=l) ho hw (by omega)
 unfold aJE adi
 refine (aoD (P:=adh c l) (by omega) hg (by omega) hP h64).bind fun r5 h5 =>h5.2.bind fun r6 h6 =>amn (by omega) h64 h5.1 h6
theorem aDs {y0 y1 y2:List Int} {y3:Bool} {o:(Cfg×Unit)×Unit} (e:afZ y0=some o) (ho:DecOk o.1.1) (hw:o.1.1.workers=(((2:Nat):Int))):aaB (abG y0 y1 y2 y3) fun r =>r.1.1=true:=by
 obtain ⟨⟨c,⟨⟩⟩,⟨⟩⟩:=o
 simp only at ho hw
 unfold abG
 refine (ahF y0 [] (by simp)).bind fun r hr =>aaB.ite (fun _ =>.some_ rfl) fun hb =>aaB.ite (fun _ =>.some_ rfl) fun hlen =>aaB.ite (fun _ =>.some_ rfl) fun h64 =>?_
 rw [e,bnd]
 refine (ajR (b:=y1) (n:=300) (by omega) (by decide)).bind fun r4 h4 =>?_
 have h4:r4.1.1.length≤300:=h4
 refine aaB.ite (fun _ =>(ajY ho).bind fun r3 h3 =>?_) fun _ =>aur ho hw (by omega) (by omega)
 have h3:r3.1.1.length≤200:=h3
 exact .guard (by omega) fun _ =>aur ho hw (by omega) (by rw [List.length_append]; omega)
theorem auq {c:Cfg} {y2:List Int} {l:List EntV} (ho:DecOk c) (hw:c.workers=(((3:Nat):Int))) (h64:y2.length≤64) (hl:l.length≤600):aaB (aJD c y2 l) fun r =>r.1.1=true:=by
 obtain ⟨g,hg,hP⟩:=au4 (y1:=l) ho hw (by omega)
 unfold aJD ad5
 refine (aoD (P:=adY c l) (by omega) hg (by omega) hP h64).bind fun r5 h5 =>h5.2.bind fun r6 h6 =>amn (by omega) h64 h5.1 h6
theorem aDr {y0 y1 y2:List Int} {y3:Bool} {o:(Cfg×Unit)×Unit} (e:afZ y0=some o) (ho:DecOk o.1.1) (hw:o.1.1.workers=(((3:Nat):Int))):aaB (abF y0 y1 y2 y3) fun r =>r.1.1=true:=by
 obtain ⟨⟨c,⟨⟩⟩,⟨⟩⟩:=o
 simp only at ho hw
 unfold abF
 refine (ahF y0 [] (by simp)).bind fun r hr =>aaB.ite (fun _ =>.some_ rfl) fun hb =>aaB.ite (fun _ =>.some_ rfl) fun hlen =>aaB.ite (fun _ =>.some_ rfl) fun h64 =>?_
 rw [e,bnd]
 refine (ajR (b:=y1) (n:=300) (by omega) (by decide)).bind fun r4 h4 =>?_
 have h4:r4.1.1.length≤300:=h4
 refine aaB.ite (fun _ =>(ajY ho).bind fun r3 h3 =>?_) fun _ =>auq ho hw (by omega) (by omega)
 have h3:r3.1.1.length≤200:=h3
 exact .guard (by omega) fun _ =>auq ho hw (by omega) (by rw [List.length_append]; omega)
theorem aup {c:Cfg} {y2:List Int} {l:List EntV} (ho:DecOk c) (hw:c.workers=(((4:Nat):Int))) (h64:y2.length≤64) (hl:l.length≤600):aaB (aJC c y2 l) fun r =>r.1.1=true:=by
 obtain ⟨g,hg,hP⟩:=au3 (y1:=l) ho hw (by omega)
 unfold aJC ad4
 refine (aoD (P:=adX c l) (by omega) hg (by omega) hP h64).bind fun r5 h5 =>h5.2.bind fun r6 h6 =>amn (by omega) h64 h5.1 h6
theorem aDq {y0 y1 y2:List Int} {y3:Bool} {o:(Cfg×Unit)×Unit} (e:afZ y0=some o) (ho:DecOk o.1.1) (hw:o.1.1.workers=(((4:Nat):Int))):aaB (abE y0 y1 y2 y3) fun r =>r.1.1=true:=by
 obtain ⟨⟨c,⟨⟩⟩,⟨⟩⟩:=o
 simp only at ho hw
 unfold abE
 refine (ahF y0 [] (by simp)).bind fun r hr =>aaB.ite (fun _ =>.some_ rfl) fun hb =>aaB.ite (fun _ =>.some_ rfl) fun hlen =>aaB.ite (fun _ =>.some_ rfl) fun h64 =>?_
 rw [e,bnd]
 refine (ajR (b:=y1) (n:=300) (by omega) (by decide)).bind fun r4 h4 =>?_
 have h4:r4.1.1.length≤300:=h4
 refine aaB.ite (fun _ =>(ajY ho).bind fun r3 h3 =>?_) fun _ =>aup ho hw (by omega) (by omega)
 have h3:r3.1.1.length≤200:=h3
 exact .guard (by omega) fun _ =>aup ho hw (by omega) (by rw [List.length_append]; omega)
theorem aJb {y0 y1 y2:List Int} {y3:Bool} (hb:∀ x∈y0,0≤x∧x≤255) :
  aaB (abb y0 y1 y2 y3) (fun r =>r.1.1=true)∨aaB (abG y0 y1 y2 y3) (fun r =>r.1.1=true)∨aaB (abF y0 y1 y2 y3) (fun r =>r.1.1=true)∨aaB (abE y0 y1 y2 y3) (fun r =>r.1.1=true):=by
 by_cases hl:y0.length≤400
 ·obtain ⟨o,e,ho⟩:=avI hb (by omega)
  have hw:=ho.w
  have hv:o.1.1.workers=((1:Nat):Int)∨o.1.1.workers=((2:Nat):Int)∨o.1.1.workers=((3:Nat):Int)∨o.1.1.workers=((4:Nat):Int):=by omega
  rcases hv with h | h | h | h
  ·exact .inl (aDt e ho h)
  ·exact .inr (.inl (aDs e ho h))
  ·exact .inr (.inr (.inl (aDr e ho h)))
  ·exact .inr (.inr (.inr (aDq e ho h)))
 ·refine .inl ?_
  unfold abb
  refine (ahF y0 [] (by simp)).bind fun r hr =>aaB.ite (fun _ =>.some_ rfl) fun h =>?_
  exfalso
  have h1:r.1.1=true:=by revert h; cases r.1.1<;>simp
  exact hl (hr h1).1
end
end Go.Proofs.YtidhehdanppcoaaGreat
