/- CommuteNeighbours answers true. -/
import Derived.Test.YtidhehdanppcoaaGreatCnar
set_option linter.all false
namespace Go.Proofs.YtidhehdanppcoaaGreat
open Go Go.RowKit
set_option maxRecDepth 100000
variable [Tb]
theorem alb {c:Cfg} (h:DecOk c):aan (abI c) fun o =>o.1.1.length≤200:=by
 have hs:=h.sn
 have e0:wi (40*((c.subs.length:Nat):Int))=40*(c.subs.length:Int):=aaK (aao (by omega))
 unfold abI
 refine aan.bind (P:=fun z =>z.1.length≤200) (abK (fun x =>0≤x.2.1∧(x.1.length:Int)≤x.2.1∧x.2.1≤40*(c.subs.length:Int)) (fun x =>(40*(c.subs.length:Int)-x.2.1).toNat) (fun self x hx ih =>?istep) _ _ ⟨Int.le_refl 0,Int.le_refl 0,by show (0:Int)≤_; omega⟩ (by show (_-0:Int).toNat<_; omega)) fun z hz =>.some_ hz
 case istep =>
  obtain ⟨q0,q1,q2⟩:=hx
  have e1:wi (x.2.1+1)=x.2.1+1:=aaK (aao (by omega))
  rw [e0,e1]
  refine aan.ite (fun hlt =>?_) fun _ =>.some_ (by show x.1.length≤200; omega)
  unfold aaU
  rw [bnd]
  refine .guard (by simp only [List.length_singleton]; omega) fun _ =>ih _ ⟨by show 0≤x.2.1+1; omega,?_,by show x.2.1+1≤_; omega⟩ (by show (_-(x.2.1+1):Int).toNat<(_-x.2.1:Int).toNat; omega)
  show ((x.1++[_]).length:Int)≤x.2.1+1
  rw [List.length_append,List.length_singleton]
  omega
theorem ayM {α:Type} {x1 x2:α} {l2:List α}:∀ {l1:List α} {i:Nat},(l1++x2::x1::l2)[i]?=(l1++x1::x2::l2)[sg l1.length i]?
 | [],0 =>rfl
 | [],1 =>rfl
 | [],i+2 =>by
  have:sg 0 (i+2)=i+2:=by unfold sg; (repeat' split)<;>omega
  show _=(x1::x2::l2)[sg 0 (i+2)]?
  rw [this]; rfl
 | x::l1,0 =>by
  have:sg (l1.length+1) 0=0:=by unfold sg; (repeat' split)<;>omega
  show _=(x::(l1++x1::x2::l2))[sg (l1.length+1) 0]?
  rw [this]; rfl
 | x::l1,i+1 =>by
  have:sg (l1.length+1) (i+1)=sg l1.length i+1:=by unfold sg; (repeat' split)<;>omega
  show (l1++x2::x1::l2)[i]?=(x::(l1++x1::x2::l2))[sg (l1.length+1) (i+1)]?
  rw [this]
  exact ayM
theorem aAC {α:Type} {a b x y:α} {Q:List α}:∀ {P:List α},((P++a::b::Q).set P.length x).set (P.length+1) y=P++x::y::Q
 | [] =>rfl
 | p::P =>congrArg (p::·) (aAC (P:=P))
theorem amx {α:Type} {l:List α} {k:Nat} (h:k+1<l.length):l=l.take k++l[k]::l[k+1]::l.drop (k+2):=by
 rw [← List.drop_eq_getElem_cons h,← List.drop_eq_getElem_cons (by omega),List.take_append_drop]
section
variable {c:Cfg} {N k:Nat} {g:EgC} {acs:List AccV} {y2:List Int} {y3:Int}
theorem aoE {l:List Int} {i:Nat} (h:i<l.length):acg l (i:Int)=l[i]:=by
 have:=adL (α:=Int) (d:=(dfR 1:TR 1)) (xs:=l) (i:=(i:Int)) ⟨by omega,by omega⟩
 rw [Int.toNat_natCast,List.getElem?_eq_getElem h] at this
 exact (Option.some.inj this).symm
theorem aGo (hk:k+1<y2.length) (h64:y2.length≤64):aeE y2 (k:Int)=y2.take k++y2[k+1]::y2[k]::y2.drop (k+2):=by
 have e1:wi ((k:Int)+1)=((k+1:Nat):Int):=aaK (aao (by omega))
 have lt:(y2.take k).length=k:=by rw [List.length_take]; omega
 show (y2.set (k:Int).toNat (acg y2 (wi ((k:Int)+1)))).set (wi ((k:Int)+1)).toNat (acg y2 (k:Int))=_
 rw [e1,aoE hk,aoE (by omega),Int.toNat_natCast,Int.toNat_natCast]
 have:=aAC (a:=y2[k]) (b:=y2[k+1]) (x:=y2[k+1]) (y:=y2[k]) (P:=y2.take k) (Q:=y2.drop (k+2))
 rw [lt,← amx hk] at this
 exact this
theorem asO {P:List Int→Option ((List AccV×Int×Unit)×Unit)} (hw:1≤c.workers∧c.workers≤1000) (hg:GIn c N g) (hN:N+64≤100000) (hP:∀ y2:List Int,y2.length≤64→∃ acs:List AccV,P y2=some ((acs,0,()),())∧acs.map aj9=lAt c y2 g y2.length) (h64:y2.length≤64)
  (e0:P y2=some ((acs,0,()),())) (hk:k+1<y2.length) (hm:mcN c (acg y2 (k:Int))≠mcN c (acg y2 ((k+1:Nat):Int))) (hi:aka (aj9 (aja acs (k:Int))) (aj9 (aja acs ((k+1:Nat):Int)))) :
  (aeE y2 (k:Int)).length=y2.length∧GR (gAt c y2 g y2.length) (gAt c (aeE y2 (k:Int)) g (aeE y2 (k:Int)).length) ∧
  aan ((P y2).bind (aF7 c y2)) fun p =>(p.1.2.1=0∧p.1.1.length≤64)∧aan ((P (aeE y2 (k:Int))).bind (aF7 c (aeE y2 (k:Int)))) fun q =>q.1.2.1=0∧p.1.1=q.1.1:=by
 obtain ⟨acs0,e1,k1⟩:=hP y2 h64
 rw [e0] at e1
 obtain rfl:acs=acs0:=congrArg (fun o =>match o with | some x =>x.1.1 | none =>[]) e1
 obtain ⟨hl,hL⟩:=aon k1
 have hs:=aGo hk h64
 generalize aeE y2 (k:Int)=o at hs
 have ho:o.length=y2.length:=by
  rw [hs]
  have:=congrArg List.length (amx hk)
  rw [List.length_append,List.length_cons,List.length_cons] at this ⊢
  exact this.symm
 have hR:((List.range y2.length).map (Lb c acs y2)).length=y2.length:=by rw [List.length_map,List.length_range]
 have eR:=amx (l:=(List.range y2.length).map (Lb c acs y2)) (k:=k) (by omega)
 simp only [List.getElem_map,List.getElem_range] at eR
 have lR:(((List.range y2.length).map (Lb c acs y2)).take k).length=k:=by rw [List.length_take]; omega
 have lt:(y2.take k).length=k:=by rw [List.length_take]; omega
 rw [aoE (by omega),aoE hk] at hm
 have hL2:=hL
 rw [congrArg (List.map (mcN c)) (amx hk),eR] at hL2
 obtain ⟨w1,w2⟩:=aAj hw.1 hg (by rw [lt,List.length_drop]; omega) hm hL2 (by rw [lR,lt]) hi
 rw [← amx hk,← hs] at w2
 rw [← hs] at w1
 refine ⟨ho,?_,?_⟩
 ·unfold gAt
  rw [List.take_length,List.take_length]
  exact w2
 obtain ⟨acs',e2,k2⟩:=hP o (by omega)
 obtain ⟨hl',hL'⟩:=aon k2
 rw [w1,ho] at hL'
 have eL:∀ i,i<y2.length→Lb c acs' o i=Lb c acs y2 (sg k i):=fun i hi2 =>by
  have q1:((List.range y2.length).map (Lb c acs' o))[i]?=some (Lb c acs' o i):=by
   rw [List.getElem?_map,List.getElem?_range hi2]; rfl
  have q2:((List.range y2.length).map (Lb c acs y2))[sg k i]?=some (Lb c acs y2 (sg k i)):=by
   rw [List.getElem?_map,List.getElem?_range (awp hk hi2)]; rfl
  rw [← hL',ayM,lR,← eR,q2] at q1
  exact (Option.some.inj q1).symm
 rw [e0,e2,bnd,bnd]
 refine (aCz hw h64 hl).mono fun p hp =>?_
 obtain ⟨p0,ch,c1,c2,c3⟩:=hp
 refine ⟨⟨p0,by rw [c3,List.length_map]; omega⟩,(aCz hw (by omega) hl').mono fun q hq =>?_⟩
 obtain ⟨q0,ch',c1',c2',c3'⟩:=hq
 rw [ho] at c1' c2'
 refine ⟨q0,?_⟩
 have hcs:=ay7 aBE hk (by
  show mcN c (acg y2 (k:Int))≠mcN c (acg y2 ((k+1:Nat):Int))
  rw [aoE (by omega),aoE hk]; exact hm) hi eL c1 c1' c2 c2' y2.length (Nat.le_refl _)
 rw [List.take_of_length_le (by omega),List.take_of_length_le (by omega)] at hcs
 rw [c3,c3',hcs,List.map_map]
 refine List.map_congr_left fun i hi2 =>?_
 show ((Lb c acs y2 (sg k i)).1:Int)=((Lb c acs' o i).1:Int)
 rw [eL i (aF6 c1' i hi2)]
theorem anm {α:Type} {r5:(List AccV×Int×Unit)×Unit} {T F:Option ((Bool×Unit)×α)} {K:Int→Option ((Bool×Unit)×α)} {Q:(Bool×Unit)×α→Prop} (hw:1≤c.workers∧c.workers≤1000) (h2:2≤y2.length∧y2.length≤64) (h5:r5.1.2.1=0) (ha:r5.1.1.length=y2.length) (hT:aan T Q)
  (hK:∀ k:Nat,k+1<y2.length→mcN c (acg y2 (k:Int))≠mcN c (acg y2 ((k+1:Nat):Int))→aka (aj9 (aja r5.1.1 (k:Int))) (aj9 (aja r5.1.1 ((k+1:Nat):Int)))→aan (K (k:Int)) Q):aan (ash c y2 y3 r5 T F K) Q:=by
 unfold ash
 rw [if_neg (by decide),if_neg (fun h =>h h5),if_neg (fun h =>h (by omega)),aaK (x:=((y2.length:Nat):Int)-1) (aao (by omega))]
 refine (awY (by omega)).bind fun r hr =>?_
 obtain ⟨⟨k,⟨⟩⟩,⟨⟩⟩:=r
 obtain ⟨q1,q2⟩:=hr
 simp only at q1 q2
 obtain ⟨k,rfl⟩:=Int.eq_ofNat_of_zero_le q1
 have e1:wi ((k:Int)+1)=((k+1:Nat):Int):=aaK (aao (by omega))
 simp only [e1]
 rw [aaK (x:=c.workers+1) (aao (by omega))]
 have hk:k+1<y2.length:=by omega
 refine aan.bind (P:=fun z =>z.1=true∨(z.1=false∧mcN c (acg y2 (k:Int))≠mcN c (acg y2 ((k+1:Nat):Int))∧aka (aj9 (aja r5.1.1 (k:Int))) (aj9 (aja r5.1.1 ((k+1:Nat):Int))))) ?_ fun z hz =>?_
 ·refine .guard (by omega) fun _ =>.guard (by omega) fun _ =>(aB5 (by omega)).bind fun d1 hd1 =>.guard trivial fun _ =>.guard trivial fun _ =>(aB5 (by omega)).bind fun d2 hd2 =>?_
  rw [hd1,hd2]
  have rg1:=ajU (c:=c) (v:=acg y2 (k:Int)) (by omega)
  have rg2:=ajU (c:=c) (v:=acg y2 ((k+1:Nat):Int)) (by omega)
  refine aan.ite (fun _ =>.some_ (.inl rfl)) fun hne =>.guard (by omega) fun _ =>.guard (by omega) fun _ =>?_
  refine aan.bind (show aan (adH (aja r5.1.1 (k:Int)) (aja r5.1.1 ((k+1:Nat):Int))) _ from ayK) fun b hb =>.some_ ?_
  show (!b.1.1)=true∨((!b.1.1)=false∧_)
  cases hbb:b.1.1 with
  | false =>exact .inl rfl
  | true =>
   refine .inr ⟨rfl,fun h =>hne ?_,hb.1 hbb⟩
   unfold mcN at h; omega
 ·rcases hz with hz | ⟨hz,hm,hi⟩
  ·rw [if_pos hz]; exact hT
  ·rw [if_neg (by rw [hz]; decide)]
   have:=hK k hk hm hi
   refine .guard (by simp only [List.length_nil]; omega) fun _ =>.guard (by show _∧_<((y2.length:Nat):Int); omega) fun _ =>.guard (by show _∧_<((y2.length:Nat):Int); omega) fun _ =>.guard (by show _∧_<((y2.length:Nat):Int); omega) fun _ =>.guard (by rw [List.length_set]; show _∧_<((y2.length:Nat):Int); omega) fun _ =>this
end
theorem avs {c:Cfg} {y2:List Int} {y3:Int} {l:List EntV} (ho:DecOk c) (hw:c.workers=(((1:Nat):Int))) (h2:2≤y2.length∧y2.length≤64) (hl:l.length≤600):aan (aLe c y2 y3 l) fun r =>r.1.1=true:=by
 obtain ⟨g,hg,hP,hX⟩:=awH (y1:=l) ho hw (by omega)
 obtain ⟨acs,e0,k0⟩:=hP y2 h2.2
 unfold aLe ag0
 rw [e0,bnd,bnd]
 refine anm (by omega) h2 rfl (aon k0).1 (.some_ rfl) fun k hk hm hi =>?_
 unfold aeQ
 obtain ⟨ho2,hr,hp⟩:=asO (P:=ad1 c l) (by omega) hg (by omega) hP h2.2 e0 hk hm hi
 refine hp.bind fun p hp =>hp.2.bind fun q hq =>?_
 rw [if_pos hp.1.1,if_pos hq.1,← hq.2,ai1 (by omega),bnd,if_pos rfl]
 obtain ⟨x,x0,x1,x2,x3⟩:=hX y2 h2.2
 obtain ⟨y,y0,y1,y4,y3⟩:=hX (aeE y2 (k:Int)) (by omega)
 rw [x0,apF,apF,y0,apF]
 have gx:=aew hg (by omega) (by omega) y2.length (Nat.le_refl _)
 have gy:=aew hg (y2:=aeE y2 (k:Int)) (by omega) (by omega) _ (Nat.le_refl _)
 rw [ho2] at gy
 rw [ho2] at hr y1 y4
 exact axC gx gy hr (by omega) x1 x2 x3 y1 y4 y3
theorem aEq {y0 y1 y2:List Int} {y3:Int} {y4:Bool} {o:(Cfg×Unit)×Unit} (e:agX y0=some o) (ho:DecOk o.1.1) (hw:o.1.1.workers=(((1:Nat):Int))):aan (aaR y0 y1 y2 y3 y4) fun r =>r.1.1=true:=by
 obtain ⟨⟨c,⟨⟩⟩,⟨⟩⟩:=o
 simp only at ho hw
 unfold aaR
 refine (aiI y0 [] (by simp)).bind fun r hr =>aan.ite (fun _ =>.some_ rfl) fun hb =>aan.ite (fun _ =>.some_ rfl) fun hlen =>aan.ite (fun _ =>.some_ rfl) fun h40 =>aan.ite (fun _ =>.some_ rfl) fun h2 =>?_
 rw [e,bnd]
 refine (ak3 (b:=y1) (n:=300) (by omega) (by decide)).bind fun r4 h4 =>?_
 have h4:r4.1.1.length≤300:=h4
 refine aan.ite (fun _ =>(alb ho).bind fun r3 h3 =>?_) fun _ =>avs ho hw (by omega) (by omega)
 have h3:r3.1.1.length≤200:=h3
 exact .guard (by omega) fun _ =>avs ho hw (by omega) (by rw [List.length_append]; omega)
theorem avr {c:Cfg} {y2:List Int} {y3:Int} {l:List EntV} (ho:DecOk c) (hw:c.workers=(((2:Nat):Int))) (h2:2≤y2.length∧y2.length≤64) (hl:l.length≤600):aan (aLd c y2 y3 l) fun r =>r.1.1=true:=by
 obtain ⟨g,hg,hP,hX⟩:=awG (y1:=l) ho hw (by omega)
 obtain ⟨acs,e0,k0⟩:=hP y2 h2.2
 unfold aLd afe
 rw [e0,bnd,bnd]
 refine anm (by omega) h2 rfl (aon k0).1 (.some_ rfl) fun k hk hm hi =>?_
 unfold ad2
 obtain ⟨ho2,hr,hp⟩:=asO (P:=ad0 c l) (by omega) hg (by omega) hP h2.2 e0 hk hm hi
 refine hp.bind fun p hp =>hp.2.bind fun q hq =>?_
 rw [if_pos hp.1.1,if_pos hq.1,← hq.2,ai1 (by omega),bnd,if_pos rfl]
 obtain ⟨x,x0,x1,x2,x3⟩:=hX y2 h2.2
 obtain ⟨y,y0,y1,y4,y3⟩:=hX (aeE y2 (k:Int)) (by omega)
 rw [x0,apF,apF,y0,apF]
 have gx:=aew hg (by omega) (by omega) y2.length (Nat.le_refl _)
 have gy:=aew hg (y2:=aeE y2 (k:Int)) (by omega) (by omega) _ (Nat.le_refl _)
 rw [ho2] at gy
 rw [ho2] at hr y1 y4
 exact axB gx gy hr (by omega) x1 x2 x3 y1 y4 y3
theorem aEp {y0 y1 y2:List Int} {y3:Int} {y4:Bool} {o:(Cfg×Unit)×Unit} (e:agX y0=some o) (ho:DecOk o.1.1) (hw:o.1.1.workers=(((2:Nat):Int))):aan (abk y0 y1 y2 y3 y4) fun r =>r.1.1=true:=by
 obtain ⟨⟨c,⟨⟩⟩,⟨⟩⟩:=o
 simp only at ho hw
 unfold abk
 refine (aiI y0 [] (by simp)).bind fun r hr =>aan.ite (fun _ =>.some_ rfl) fun hb =>aan.ite (fun _ =>.some_ rfl) fun hlen =>aan.ite (fun _ =>.some_ rfl) fun h40 =>aan.ite (fun _ =>.some_ rfl) fun h2 =>?_
 rw [e,bnd]
 refine (ak3 (b:=y1) (n:=300) (by omega) (by decide)).bind fun r4 h4 =>?_
 have h4:r4.1.1.length≤300:=h4
 refine aan.ite (fun _ =>(alb ho).bind fun r3 h3 =>?_) fun _ =>avr ho hw (by omega) (by omega)
 have h3:r3.1.1.length≤200:=h3
 exact .guard (by omega) fun _ =>avr ho hw (by omega) (by rw [List.length_append]; omega)
theorem avq {c:Cfg} {y2:List Int} {y3:Int} {l:List EntV} (ho:DecOk c) (hw:c.workers=(((3:Nat):Int))) (h2:2≤y2.length∧y2.length≤64) (hl:l.length≤600):aan (aLc c y2 y3 l) fun r =>r.1.1=true:=by
 obtain ⟨g,hg,hP,hX⟩:=awF (y1:=l) ho hw (by omega)
 obtain ⟨acs,e0,k0⟩:=hP y2 h2.2
 unfold aLc agZ
 rw [e0,bnd,bnd]
 refine anm (by omega) h2 rfl (aon k0).1 (.some_ rfl) fun k hk hm hi =>?_
 unfold aeP
 obtain ⟨ho2,hr,hp⟩:=asO (P:=adZ c l) (by omega) hg (by omega) hP h2.2 e0 hk hm hi
 refine hp.bind fun p hp =>hp.2.bind fun q hq =>?_
 rw [if_pos hp.1.1,if_pos hq.1,← hq.2,ai1 (by omega),bnd,if_pos rfl]
 obtain ⟨x,x0,x1,x2,x3⟩:=hX y2 h2.2
 obtain ⟨y,y0,y1,y4,y3⟩:=hX (aeE y2 (k:Int)) (by omega)
 rw [x0,apF,apF,y0,apF]
 have gx:=aew hg (by omega) (by omega) y2.length (Nat.le_refl _)
 have gy:=aew hg (y2:=aeE y2 (k:Int)) (by omega) (by omega) _ (Nat.le_refl _)
 rw [ho2] at gy
 rw [ho2] at hr y1 y4
 exact axA gx gy hr (by omega) x1 x2 x3 y1 y4 y3
theorem aEo {y0 y1 y2:List Int} {y3:Int} {y4:Bool} {o:(Cfg×Unit)×Unit} (e:agX y0=some o) (ho:DecOk o.1.1) (hw:o.1.1.workers=(((3:Nat):Int))):aan (abj y0 y1 y2 y3 y4) fun r =>r.1.1=true:=by
 obtain ⟨⟨c,⟨⟩⟩,⟨⟩⟩:=o
 simp only at ho hw
 unfold abj
 refine (aiI y0 [] (by simp)).bind fun r hr =>aan.ite (fun _ =>.some_ rfl) fun hb =>aan.ite (fun _ =>.some_ rfl) fun hlen =>aan.ite (fun _ =>.some_ rfl) fun h40 =>aan.ite (fun _ =>.some_ rfl) fun h2 =>?_
 rw [e,bnd]
 refine (ak3 (b:=y1) (n:=300) (by omega) (by decide)).bind fun r4 h4 =>?_
 have h4:r4.1.1.length≤300:=h4
 refine aan.ite (fun _ =>(alb ho).bind fun r3 h3 =>?_) fun _ =>avq ho hw (by omega) (by omega)
 have h3:r3.1.1.length≤200:=h3
 exact .guard (by omega) fun _ =>avq ho hw (by omega) (by rw [List.length_append]; omega)
theorem avp {c:Cfg} {y2:List Int} {y3:Int} {l:List EntV} (ho:DecOk c) (hw:c.workers=(((4:Nat):Int))) (h2:2≤y2.length∧y2.length≤64) (hl:l.length≤600):aan (aLb c y2 y3 l) fun r =>r.1.1=true:=by
 obtain ⟨g,hg,hP,hX⟩:=awE (y1:=l) ho hw (by omega)
 obtain ⟨acs,e0,k0⟩:=hP y2 h2.2
 unfold aLb agY
 rw [e0,bnd,bnd]
 refine anm (by omega) h2 rfl (aon k0).1 (.some_ rfl) fun k hk hm hi =>?_
 unfold aeO
 obtain ⟨ho2,hr,hp⟩:=asO (P:=adY c l) (by omega) hg (by omega) hP h2.2 e0 hk hm hi
 refine hp.bind fun p hp =>hp.2.bind fun q hq =>?_
 rw [if_pos hp.1.1,if_pos hq.1,← hq.2,ai1 (by omega),bnd,if_pos rfl]
 obtain ⟨x,x0,x1,x2,x3⟩:=hX y2 h2.2
 obtain ⟨y,y0,y1,y4,y3⟩:=hX (aeE y2 (k:Int)) (by omega)
 rw [x0,apF,apF,y0,apF]
 have gx:=aew hg (by omega) (by omega) y2.length (Nat.le_refl _)
 have gy:=aew hg (y2:=aeE y2 (k:Int)) (by omega) (by omega) _ (Nat.le_refl _)
 rw [ho2] at gy
 rw [ho2] at hr y1 y4
 exact axz gx gy hr (by omega) x1 x2 x3 y1 y4 y3
theorem aEn {y0 y1 y2:List Int} {y3:Int} {y4:Bool} {o:(Cfg×Unit)×Unit} (e:agX y0=some o) (ho:DecOk o.1.1) (hw:o.1.1.workers=(((4:Nat):Int))):aan (abi y0 y1 y2 y3 y4) fun r =>r.1.1=true:=by
 obtain ⟨⟨c,⟨⟩⟩,⟨⟩⟩:=o
 simp only at ho hw
 unfold abi
 refine (aiI y0 [] (by simp)).bind fun r hr =>aan.ite (fun _ =>.some_ rfl) fun hb =>aan.ite (fun _ =>.some_ rfl) fun hlen =>aan.ite (fun _ =>.some_ rfl) fun h40 =>aan.ite (fun _ =>.some_ rfl) fun h2 =>?_
 rw [e,bnd]
 refine (ak3 (b:=y1) (n:=300) (by omega) (by decide)).bind fun r4 h4 =>?_
 have h4:r4.1.1.length≤300:=h4
 refine aan.ite (fun _ =>(alb ho).bind fun r3 h3 =>?_) fun _ =>avp ho hw (by omega) (by omega)
 have h3:r3.1.1.length≤200:=h3
 exact .guard (by omega) fun _ =>avp ho hw (by omega) (by rw [List.length_append]; omega)
theorem aJ1 {y0 y1 y2:List Int} {y3:Int} {y4:Bool} (hb:∀ x∈y0,0≤x∧x≤255) :
  aan (aaR y0 y1 y2 y3 y4) (fun r =>r.1.1=true)∨aan (abk y0 y1 y2 y3 y4) (fun r =>r.1.1=true)∨aan (abj y0 y1 y2 y3 y4) (fun r =>r.1.1=true)∨aan (abi y0 y1 y2 y3 y4) (fun r =>r.1.1=true):=by
 by_cases hl:y0.length≤400
 ·obtain ⟨o,e,ho⟩:=axk hb (by omega)
  have hw:=ho.w
  have hv:o.1.1.workers=((1:Nat):Int)∨o.1.1.workers=((2:Nat):Int)∨o.1.1.workers=((3:Nat):Int)∨o.1.1.workers=((4:Nat):Int):=by omega
  rcases hv with h | h | h | h
  ·exact .inl (aEq e ho h)
  ·exact .inr (.inl (aEp e ho h))
  ·exact .inr (.inr (.inl (aEo e ho h)))
  ·exact .inr (.inr (.inr (aEn e ho h)))
 ·refine .inl ?_
  unfold aaR
  refine (aiI y0 [] (by simp)).bind fun r hr =>aan.ite (fun _ =>.some_ rfl) fun h =>?_
  exfalso
  have h1:r.1.1=true:=by revert h; cases r.1.1<;>simp
  exact hl (hr h1).1
end Go.Proofs.YtidhehdanppcoaaGreat
