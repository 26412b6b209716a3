/- Walks by program: the reference's injector and its choice. Walks by program: what the reference starts; what is stolen. Walks by program: what is stolen,and the entries of a worker. Walks by program: the entries of a worker,within and out of the bounds. -/
import Derived.Test.YtjjbdbbmdhncjaaGreatSzap
set_option linter.all false
namespace Go.Proofs.YtjjbdbbmdhncjaaGreat
section
open Go Go.RowKit
theorem atl {c:Cfg} {cs:List Int} (hb:1≤c.batch):∀ (f g:Nat) (l:List Int),l.length≤f→l.length≤g→adQ c cs f l=adQ c cs g l
 | 0,0,l,_,_ =>rfl
 | 0,g+1,l,h,_ =>by
  obtain rfl:l=[]:=List.length_eq_zero_iff.1 (by omega)
  simp [adQ]
 | f+1,0,l,_,h =>by
  obtain rfl:l=[]:=List.length_eq_zero_iff.1 (by omega)
  simp [adQ]
 | f+1,g+1,l,h1,h2 =>by
  unfold adQ
  by_cases hl:l=[]
  ·rw [if_pos hl,if_pos hl]
  rw [if_neg hl,if_neg hl]
  split
  ·rfl
  ·have h3:1≤l.length:=by
    cases l with
    | nil =>exact absurd rfl hl
    | cons _ _ =>simp
   have h4:1≤c.batch.toNat:=by omega
   exact atl hb f g _ (by rw [List.length_drop]; omega) (by rw [List.length_drop]; omega)
def aeU (c:Cfg) (cs ks:List Int) (q j:Nat):Int×Int×Bool:=axe c cs ((ks.drop q).take (j-q))
theorem arV {c:Cfg} {cs ks:List Int} {i q:Nat} (hi:ks.length=i) (h:i≤q):adQ c cs (i-q) (ks.drop q)=none:=by
 rw [show i-q=0 by omega]; rfl
theorem aw5 {c:Cfg} {ks:List Int} {i q j:Nat} (hi:ks.length=i) (h1:j=i∨j=q+c.batch.toNat) (h2:j≤i) (h3:j≤q+c.batch.toNat):(ks.drop q).take c.batch.toNat=(ks.drop q).take (j-q):=by
 rcases h1 with h1 | h1
 ·rw [List.take_of_length_le (by rw [List.length_drop]; omega),List.take_of_length_le (by rw [List.length_drop]; omega)]
 ·rw [h1,Nat.add_sub_cancel_left]
theorem arU {c:Cfg} {cs ks:List Int} {i q j:Nat} (hi:ks.length=i) (hq:q<i) (h1:j=i∨j=q+c.batch.toNat) (h2:j≤i) (h3:j≤q+c.batch.toNat) (h:(aeU c cs ks q j).2.2=true):adQ c cs (i-q) (ks.drop q)=some (aeU c cs ks q j).1:=by
 obtain ⟨k,hk⟩:∃ k,i-q=k+1:=⟨i-q-1,by omega⟩
 rw [hk,adQ,if_neg (by intro e; have:=congrArg List.length e; rw [List.length_drop,List.length_nil] at this; omega),aw5 hi h1 h2 h3]
 rw [show axe c cs ((ks.drop q).take (j-q))=aeU c cs ks q j from rfl,if_pos h]
theorem aw4 {c:Cfg} {cs ks:List Int} {i q j:Nat} (hb:1≤c.batch) (hi:ks.length=i) (hq:q<i) (h1:j=i∨j=q+c.batch.toNat) (h2:j≤i) (h3:j≤q+c.batch.toNat) (h:(aeU c cs ks q j).2.2=false):adQ c cs (i-q) (ks.drop q)=adQ c cs (i-(q+c.batch.toNat)) (ks.drop (q+c.batch.toNat)):=by
 obtain ⟨k,hk⟩:∃ k,i-q=k+1:=⟨i-q-1,by omega⟩
 rw [hk,adQ,if_neg (by intro e; have:=congrArg List.length e; rw [List.length_drop,List.length_nil] at this; omega),aw5 hi h1 h2 h3]
 rw [show axe c cs ((ks.drop q).take (j-q))=aeU c cs ks q j from rfl,h,if_neg (by simp),List.drop_drop]
 exact atl hb _ _ _ (by rw [List.length_drop]; omega) (by rw [List.length_drop]; omega)
theorem alY {c:Cfg} {cs ks:List Int} {q j:Nat} (hq:q≤j) (hj:j<ks.length):aeU c cs ks q (j+1)=agE c cs (aeU c cs ks q j) (gi ks j):=by
 unfold aeU axe
 rw [show j+1-q=(j-q)+1 by omega,ahe (by rw [List.length_drop]; omega),List.foldl_append]
 simp only [List.foldl_cons,List.foldl_nil]
 congr 1
 simp [gi,List.getD_eq_getElem?_getD,List.getElem?_drop,show q+(j-q)=j by omega]
theorem aoG {c:Cfg} {cs ks:List Int} {q j:Nat} (hq:q≤j) (hj:j<ks.length) (h:acO c cs (gi ks j % 65536)=false):aeU c cs ks q (j+1)=aeU c cs ks q j:=by
 rw [alY hq hj]; unfold agE alg; rw [if_pos h]
theorem ak7 {c:Cfg} {cs ks:List Int} {q j:Nat} (hq:q≤j) (hj:j<ks.length) (h:acO c cs (gi ks j % 65536)=true) (h2:(aeU c cs ks q j).2.2=false∨(aeU c cs ks q j).2.1≤ad8 cs (abh c+1+gi ks j % 65536*5)) :
  aeU c cs ks q (j+1)=(gi ks j % 65536,ad8 cs (abh c+1+gi ks j % 65536*5),true):=by
 rw [alY hq hj]; unfold agE alg; rw [if_neg (by rw [h]; simp),if_pos h2]
theorem ajv {c:Cfg} {cs ks:List Int} {q j:Nat} (hq:q≤j) (hj:j<ks.length) (h2:¬ ((aeU c cs ks q j).2.2=false∨(aeU c cs ks q j).2.1≤ad8 cs (abh c+1+gi ks j % 65536*5))) :
  aeU c cs ks q (j+1)=aeU c cs ks q j:=by
 rw [alY hq hj]; unfold agE alg; rw [if_neg h2,ite_self]
theorem axc {c:Cfg} {cs:List Int}:∀ (l:List Int) (s:Int×Int×Bool),(s.2.2=true→0≤s.1∧s.1<c.tasks)→(l.foldl (agE c cs) s).2.2=true→0≤(l.foldl (agE c cs) s).1∧(l.foldl (agE c cs) s).1<c.tasks
 | [],s,h =>h
 | k::l,s,h =>by
  rw [List.foldl_cons]
  refine axc l _ ?_
  unfold agE
  split
  ·exact h
  ·rename_i hr
   split
   ·intro _
    simp [acO] at hr
    exact ⟨by omega,by omega⟩
   ·exact h
def axf (s:Int×Int×Bool):Int:=if s.2.2=true then s.1 else -1
theorem ae9 {c:Cfg} {cs ks:List Int} {q j:Nat}:(0≤axf (aeU c cs ks q j)↔(aeU c cs ks q j).2.2=true) ∧ -1≤axf (aeU c cs ks q j):=by
 have h:=axc (c:=c) (cs:=cs) ((ks.drop q).take (j-q)) (0,0,false) (by simp)
 change (aeU c cs ks q j).2.2=true→0≤(aeU c cs ks q j).1∧(aeU c cs ks q j).1<c.tasks at h
 unfold axf
 cases hs:(aeU c cs ks q j).2.2 with
 | true =>simp; have:=h hs; omega
 | false =>simp
theorem aqs {s:Int×Int×Bool} (h:s.2.2=true):axf s=s.1:=if_pos h
theorem ant {cs:List Int} (h:CWf cs):CWf (aaI cs):=fun i =>by
 by_cases hi:i<(aaI cs).length
 ·have hm:gi (aaI cs) i∈aaI cs:=List.mem_iff_getElem?.2 ⟨i,adL hi⟩
  have h1:=(at0 _).mem_iff.1 hm
  have h2:=List.mem_of_mem_drop (List.mem_of_mem_take h1)
  obtain ⟨k,hk⟩:=List.mem_iff_getElem?.1 h2
  have:gi cs k=gi (aaI cs) i:=by simp [gi,hk]
  rw [← this]; exact h k
 ·have:gi (aaI cs) i=0:=by simp [gi,List.getElem?_eq_none (by omega:(aaI cs).length≤i)]
  omega
theorem arW {c:Cfg} {cs:List Int} (h:1≤adX cs∧adX cs≤c.heap) (hc:4+c.heap<(cs.length:Int)):(aaI cs).length=(adX cs).toNat:=by
 unfold aaI; rw [acB,List.length_take,List.length_drop]; omega
theorem axA {cs:List Int} {i:Nat} (h:4+i<cs.length):(cs.drop 4).take i++[gi cs (4+i)]=(cs.drop 4).take (i+1):=by
 rw [ahe (by rw [List.length_drop]; omega)]
 congr 2
 simp [gi,List.getD_eq_getElem?_getD,List.getElem?_drop]
theorem atM {i n f k:Int} (h0:0≤i) (h1:i<n):atV i n f k=f+i*k:=by unfold atV; rw [if_neg (by omega)]
theorem ak6 {c:Cfg} {cs:List Int} (h:adX cs<1∨c.heap<adX cs):amD c cs=none:=if_pos h
theorem aw6 {c:Cfg} {cs:List Int} (h:1≤adX cs∧adX cs≤c.heap) {i:Nat} (hi:i=(adX cs).toNat):amD c cs=adQ c cs (i-0) ((aaI cs).drop 0):=by
 subst hi; unfold amD; rw [if_neg (by omega)]; rfl
theorem apE (A0:Option Addr) (cap n:Nat) (xs:List Int) (hn:xs.length=n) (h2:xs.length≤64) {B:Nat} {W:World} (hS:Sl afJ 1 W B A0 xs):Fn_ Tryz.prog 129 #[.slice A0 n cap] B W [] (X:=Option Addr×Nat) (fun p =>.slice p.1 n p.2) (fun p =>[abA p.1 n p.2 1 ((ab2 xs).map (Value.int .u64))]):=by
 subst hn; exact amu A0 cap xs h2 hS
theorem apK {c:Cfg} {cs:List Int} {t:Int} (h:(!acO c cs t)=false):0≤t∧t<c.tasks:=by
 simp [acO] at h; exact ⟨h.1.1,h.1.2⟩
theorem ahQ {c:Cfg} {cs:List Int} {t:Int} (h:(!acO c cs t)=false):acO c cs t=true:=by simpa using h
theorem ai2 {c:Cfg} {cs:List Int} {t:Int} (h:(!acO c cs t)=true):acO c cs t=false:=by simpa using h
set_option maxRecDepth 100000 in
theorem arh (c:Cfg) (l:CfgAt) (CA:Option Addr) (cc:Nat) (cs:List Int) (hn:CNums c) (hl:(cs.length:Int)=aaQ c) {B:Nat} {W:World} (hS:Sl afJ 1 W B CA cs) (hcw:CWf cs) (L:List aak):adV Tryz.prog 80 #[acM c l,.slice CA cs.length cc] B W L (.tuple #[.int .i64 ((amD c cs).getD 0),.bool (amD c cs).isSome]):=by
 obtain ⟨t1,t2,t3,t4,t5⟩:=afw hn
 have ht:=hn.t
 have hcl:aaQ c=abh c+5*c.tasks:=rfl
 have hd:=hn.d
 have hh:=hn.h
 have hbt:=hn.b
 have hkw:=ant hcw
 refine aay Tryz.func80 rfl (m:=98) rfl (Nat.le_of_ble_eq_true rfl) (R:=[(0,acM c l),(1,.slice CA cs.length cc)]) (by kernel_rfl) ?_
 refine aag (aaa ?_)
 refine rtm (abX (.tmp aaf) (us:=(cfL c l)) rfl) ?_
 rintro b1
 refine rtn (aab .const).q ?_
 refine rtn (aab .const).q ?_
 refine aah (aad ?_)
 refine aag (aaa ?_)
 refine rtn (aac (.tmp abk)).q ?_
 refine rtn (ack (i:=2) (.tmp aaf) .const hS (by omega) (by omega) (by omega) (by kernel_rfl) (Nat.mul_one _)).q ?_
 refine rtn (aci (i:=2) (j:=0) (.tmp aaf) hS (adL (by omega)) rfl (by omega) (by kernel_rfl)) ?_
 refine rtn (abv (.tmp aaf) Tryz.underlying38 Tryz.underlying3 (show _=adX cs from rfl)).q ?_
 refine rtn (aab (.tmp aaf)).q ?_
 refine aah (aad ?_)
 refine aag (aag (aaa ?_))
 refine rtn (aac (.tmp aaf)).q ?_
 refine rtn (abE (.tmp aaf) .const).q ?_
 refine rtn (aac (.tmp aaf)).q ?_
 refine abm aaR aaR (fun h2 =>?_) (fun h2 =>?_)
 ·refine rtk aaf ?_
  refine rtk aap ?_
  refine rtk aaC ?_
  refine rtk aa1 ?_
  refine rtn (aat (b:=true) (.tmp abk) .const).q ?_
  refine aah (aad ?_)
  refine acz (.tmp aaf) ?_
  refine aag (aaa ?_)
  refine aa5 (aab .const).q aae (aaj ank (by kernel_rfl)) ?_
  refine aa5 (aab .const).q aae (aaj ank (by kernel_rfl)) ?_
  refine aah (aad ?_)
  refine aaz (aao ?_)
  exact aaN rfl (.cons aap (.cons aaf .nil)) (by simp only [abN]; first | (rw [ak6 (by omega)]; rfl) | (rw [hq1,arV hksl (by omega)]; rfl)) Ent.drop
 ·refine rts (aac (.tmp aa1)).q aaf ?_
  refine rts (aan (k:=5) (o':=5) (.tmp acT) (by kernel_rfl) (by rfl)).q aap ?_
  refine rts (aax (o:=0) (i:=5) (.tmp aaf) aaf (rfl) rfl (by kernel_rfl)) aaC ?_
  refine rts (afI (.tmp aaC) (.tmp aaf)).q aa1 ?_
  refine rtn (aat (b:=false) (.tmp abk) (.tmp aaf)).q ?_
  refine aah (aad ?_)
  refine abT (.tmp aaf) (fun h3 =>?_) (fun h3 =>?_)
  ·refine aag (aaa ?_)
   refine aa5 (aab .const).q aae (aaj ank (by kernel_rfl)) ?_
   refine aa5 (aab .const).q aae (aaj ank (by kernel_rfl)) ?_
   refine aah (aad ?_)
   refine aaz (aao ?_)
   exact aaN rfl (.cons aap (.cons aaf .nil)) (by simp only [abN]; first | (rw [ak6 (by omega)]; rfl) | (rw [hq1,arV hksl (by omega)]; rfl)) Ent.drop
  ·refine aaD ?_
   refine aad (aag (aaa ?_))
   refine rtn (aab .const).q ?_
   refine aah (aad ?_)
   refine aag (aag (aaa ?_))
   refine rtn (aab .const).q ?_
   refine aah (aad ?_)
   refine aaU ?_
   refine amd (afv 1) ?_
   refine agP (X:=Nat) (Y:=Option Addr) (Z:=Nat) (fun i A cx =>(adX cs).toNat-i) (fun i A cx =>i≤(adX cs).toNat) (fun i A cx =>[(8,.int .i64 ((i:Int))),(7,.slice A i cx),(6,.int .i64 ((adX cs))),(5,.bool false),(4,.int .i64 0),(2,.pointer (some ⟨b1,0,none⟩)),(1,.slice CA cs.length cc)]) (fun i A cx =>abA A i cx 1 (((cs.drop 4).take i).map (Value.int .u64))::pts b1 0 (cfL c l)::L) 0 none 0 (by omega) (.cons aaf (congrArg (Value.int .i64) (by first | rfl | omega | (simp; omega) | simp)) (.cons aap (by first | rfl | simp) (.cons acP rfl (.cons adP rfl (.cons aem rfl (.cons ad9 rfl (.cons aev rfl .nil))))))) (Ent.refl) (fun i A cx hi4 =>?_)
   have hi0:=hi4
   refine aag (aag (aaa ?_))
   refine rtn (aac (.tmp aaf)).q ?_
   refine rtn (aac (.tmp aa1)).q ?_
   refine rtn (abE (.tmp aap) (.tmp aaf)).q ?_
   refine aah (aad ?_)
   refine abT (.tmp aaf) (fun h5 =>?_) (fun h5 =>?_)
   ·refine aaD ?_
    refine aad (aag ?_)
    refine aaU ?_
    refine aaa ?_
    refine rtn (aac (.tmp abk)).q ?_
    refine rtn (aac (.tmp acP)).q ?_
    refine rtn (aaB (o:=0) (i:=0) (k:=11) (us:=(cfL c l)) (.tmp acP) aap (rfl) (by kernel_rfl) rfl rfl) ?_
    refine rtn (aac (.tmp adz)).q ?_
    have hat:atV (i:Int) c.heap 4 1=4+(i:Int)*1:=atM (by omega) (by omega)
    refine rtn (aaw (by kernel_rfl) (.cons (.tmp aap) (.cons (.tmp aaf) .nil)) (apF c l hn _ B W _)) ?_
    refine rtn (ack (i:=((atV ((i:Int)) c.heap 4 1)).toNat) (.tmp aa1) (.tmp aaf) hS (by omega) (by omega) (by omega) (by kernel_rfl) (Nat.mul_one _)).q ?_
    refine rtn (aci (i:=((atV ((i:Int)) c.heap 4 1)).toNat) (j:=0) (.tmp aaf) hS (adL (by omega)) rfl (by omega) (by kernel_rfl)) ?_
    refine rtm (acg (T':=38) (us:=[.int .u64 ((gi cs (((atV ((i:Int)) c.heap 4 1)).toNat)))]) (.cons (.tmp aaf) .nil) (fun _ =>by kernel_rfl)) ?_
    rintro b6
    refine rtm (afq (by_:=8) (z:=.int .u64 0) (.tmp aeX) (.tmp aaf) (.cons agv (.cons aeW .nil)) Tryz.underlying23 (adF (by kernel_rfl)) rfl (by decide) rfl rfl (by decide) (by unfold maxLen; omega) (by omega)) ?_
    rintro ⟨A7,c7⟩
    refine aeM agL ?_
    refine aa5 (aab (.tmp aaf)).q aae (aaj afG (by kernel_rfl)) ?_
    refine aah ?_
    refine aa7 ?_
    refine aad (aaa ?_)
    refine rtn (aac (.tmp ad3)).q ?_
    refine rtn (aaM (.tmp aaf) .const (w64 (by omega) (by omega))).q ?_
    refine aa5 (aab (.tmp aaf)).q aae (aaj ajn (by kernel_rfl)) ?_
    refine aah ?_
    exact adU (n:=98) (i+1) A7 c7 (by omega) (by omega) (.cons aaf (congrArg (Value.int .i64) (by first | rfl | omega | (simp; omega) | simp)) (.cons aa1 (by first | rfl | simp) (.cons aem rfl (.cons ad9 rfl (.cons aeP rfl (.cons aev rfl (.cons (aar aaf) rfl .nil))))))) (acQ (by rw [hat,show (4+(i:Int)*1).toNat=4+i by omega]; exact axA (by omega)) rfl Ent.refl)
   ·refine aco ?_
    refine aaq ?_
    refine aaq ?_
    refine aaK ?_
    refine aad (aag (aaa ?_))
    refine rtn (aac (.tmp abk)).q ?_
    have hiN:(i:Int)=adX cs:=by omega
    have hkl:((cs.drop 4).take i).length=i:=by rw [List.length_take,List.length_drop]; omega
    have hks:ab2 ((cs.drop 4).take i)=aaI cs:=by rw [show i=(adX cs).toNat by omega]; rfl
    have hksl:(aaI cs).length=i:=by rw [← hks,acB]; exact hkl
    refine rtm (awx (fun _ =>⟨_,_,_,_,_,rfl⟩) (by kernel_rfl) (.cons (.tmp aaf) .nil) (fun w hw =>apE _ _ _ _ hkl (by omega) (avw (fun _ =>rfl) aaf hw.2.2 hkl (by omega)))) ?_
    rintro ⟨A8,c8⟩
    refine aeM (acQ hks rfl Ent.refl) ?_
    refine aa5 (aab (.tmp aaf)).q aae (aaj aom (by kernel_rfl)) ?_
    refine aah (aad ?_)
    refine aag (aag (aaa ?_))
    refine rtn (aab .const).q ?_
    refine aah (aad ?_)
    refine aaU ?_
    refine aey (X:=Nat) (fun q =>i-q) (fun q =>q≤i+64∧amD c cs=adQ c cs (i-q) ((aaI cs).drop q)) (fun q =>[(9,.int .i64 ((q:Int))),(7,.slice A8 i c8),(6,.int .i64 ((adX cs))),(2,.pointer (some ⟨b1,0,none⟩)),(1,.slice CA cs.length cc)]) (fun q =>abA A8 i c8 1 ((aaI cs).map (Value.int .u64))::abA A i cx 1 (((cs.drop 4).take i).map (Value.int .u64))::pts b1 0 (cfL c l)::L) 0 (⟨by omega,aw6 ⟨by omega,by omega⟩ (by omega)⟩) (.cons aaf (congrArg (Value.int .i64) (by first | rfl | omega | (simp; omega) | simp)) (.cons aap rfl (.cons adK rfl (.cons acT rfl (.cons aeg rfl .nil))))) (Ent.refl) (fun q hi9 =>?_)
    obtain ⟨hq0,hq1⟩:=hi9
    refine aag (aag (aaa ?_))
    refine rtn (aac (.tmp aaf)).q ?_
    refine rtn (aac (.tmp aa1)).q ?_
    refine rtn (abE (.tmp aap) (.tmp aaf)).q ?_
    refine aah (aad ?_)
    refine abT (.tmp aaf) (fun h10 =>?_) (fun h10 =>?_)
    ·refine aaD ?_
     refine aad (aag ?_)
     refine aaU ?_
     refine aag (aaa ?_)
     refine rtn (aab .const).q ?_
     refine rtn (aab .const).q ?_
     refine aah (aad ?_)
     refine aag (aag (aaa ?_))
     refine rtn (aac (.tmp acU)).q ?_
     refine rtn (aab (.tmp aaf)).q ?_
     refine aah (aad ?_)
     refine aaU ?_
     refine aey (X:=Nat) (fun j =>i-j) (fun j =>q≤j∧j≤i∧j≤q+c.batch.toNat) (fun j =>[(12,.int .i64 ((j:Int))),(52,.int .i64 ((q:Int))),(11,.int .u64 ((aeU c cs (aaI cs) q j).2.1)),(10,.int .i64 ((axf (aeU c cs (aaI cs) q j)))),(47,.bool (decide ((q:Int)<(adX cs)))),(46,.int .i64 ((adX cs))),(45,.int .i64 ((q:Int))),(9,.int .i64 ((q:Int))),(7,.slice A8 i c8),(6,.int .i64 ((adX cs))),(2,.pointer (some ⟨b1,0,none⟩)),(1,.slice CA cs.length cc)]) (fun j =>abA A8 i c8 1 ((aaI cs).map (Value.int .u64))::abA A i cx 1 (((cs.drop 4).take i).map (Value.int .u64))::pts b1 0 (cfL c l)::L) q (⟨by omega,by omega,by omega⟩) (.cons aaf (congrArg (Value.int .i64) (by first | rfl | omega | (simp; omega) | simp)) (.cons aap rfl (.cons aaC (congrArg (Value.int .u64) (by simp [aeU,axe,axf])) (.cons aa1 (congrArg (Value.int .i64) (by simp [aeU,axe,axf])) (.cons abk rfl (.cons acU rfl (.cons adz rfl (.cons aeX rfl (.cons adK rfl (.cons aff rfl (.cons acP rfl (.cons acT rfl .nil)))))))))))) (Ent.refl) (fun j hi11 =>?_)
     obtain ⟨hj0,hj1,hj2⟩:=hi11
     have hgp:=ae9 (c:=c) (cs:=cs) (ks:=(aaI cs)) (q:=q) (j:=j)
     refine aag (aag (aaa ?_))
     refine rtn (aac (.tmp aaf)).q ?_
     refine rtn (aac (.tmp acP)).q ?_
     refine rtn (abE (.tmp aap) (.tmp aaf)).q ?_
     refine rtn (aac (.tmp aaf)).q ?_
     refine abm aaR aaR (fun h12 =>?_) (fun h12 =>?_)
     ·refine rts (aac (.tmp abk)).q aaf ?_
      refine rts (aac (.tmp aeg)).q aap ?_
      refine rts (aan (k:=6) (o':=6) (.tmp aem) (by kernel_rfl) (by rfl)).q aaC ?_
      refine rts (aax (o:=0) (i:=6) (.tmp aaf) aaC (rfl) rfl (by kernel_rfl)) aa1 ?_
      refine rts (aaM (.tmp aaC) (.tmp aaf) (w64 (by omega) (by omega))).q abk ?_
      refine rts (abE (.tmp abk) (.tmp aaf)).q acU ?_
      refine rtn (aat (b:=true) (.tmp adz) (.tmp aaf)).q ?_
      refine aah (aad ?_)
      refine abT (.tmp aaf) (fun h13 =>?_) (fun h13 =>?_)
      ·refine aaD ?_
       refine aad (aag ?_)
       refine aaU ?_
       refine aag (aaa ?_)
       refine rtn (aac (.tmp aev)).q ?_
       refine rtn (aac (.tmp aeg)).q ?_
       refine rtn (acj (i:=j) (.tmp aap) (.tmp aaf) aaf (by omega) (by omega) (by omega) (by kernel_rfl) (Nat.mul_one _)) ?_
       refine rtn (adk (i:=j) (.tmp aaf) aaf (agb (by omega)) (by kernel_rfl)) ?_
       have hkj:=hkw j
       refine rtn (aaw (by kernel_rfl) (.cons (.tmp aaf) .nil) (amt _ (by omega) (by omega) B W _)) ?_
       refine rtn (aac (.tmp aaf)).q ?_
       refine rtn (aaA (.tmp aaf) rfl).q ?_
       refine rtn (aaA (.tmp aap) rfl).q ?_
       refine rtn (aaA (.tmp aaC) rfl).q ?_
       refine rtn (aab (.tmp aaC)).q ?_
       refine rtn (aab (.tmp aaC)).q ?_
       refine rtn (aab (.tmp aaC)).q ?_
       refine aah (aad ?_)
       refine aag (aag (aaa ?_))
       refine rtn (aaB (o:=0) (i:=0) (k:=11) (us:=(cfL c l)) (.tmp (aar ad3)) aaC (rfl) (by kernel_rfl) rfl rfl) ?_
       refine rtn (aac (.tmp (aar adP))).q ?_
       refine rtn (aac (.tmp aaC)).q ?_
       refine rtn (aaw (by kernel_rfl) (.cons (.tmp aaC) (.cons (.tmp aap) (.cons (.tmp aaf) .nil))) (aiZ c l CA cc cs hn hl _ hS hcw _)) ?_
       refine rtn (aef (.tmp aaf)).q ?_
       refine aah (aad ?_)
       refine ajA (.tmp aaf) (fun h14 =>?_) (fun h14 =>?_)
       ·refine aco ?_
        refine aaq ?_
        refine aaK ?_
        refine aad (aaa ?_)
        refine rtn (aac (.tmp (aar adK))).q ?_
        refine rtn (aaM (.tmp aaf) .const (w64 (by omega) (by omega))).q ?_
        refine aa5 (aab (.tmp aaf)).q aae (aaj (aa0 akz) (by kernel_rfl)) ?_
        refine aah ?_
        have hgs:aeU c cs (aaI cs) q (j+1)=(aeU c cs (aaI cs) q j):=by first | exact aoG (by omega) (by omega) (ai2 (by assumption)) | exact ajv (by omega) (by omega) (by rw [hf,← hcell]; intro hh; rcases hh with hh | hh; cases hh; omega)
        exact abW (n:=98) ((j+1)) (⟨by omega,by omega,by omega⟩) (by omega) (.cons aaf (congrArg (Value.int .i64) (by first | rfl | omega | (simp; omega) | simp)) (.cons (aar acT) rfl (.cons (aar aeg) (congrArg (Value.int .u64) (by rw [hgs])) (.cons (aar ad3) (congrArg (Value.int .i64) (by rw [hgs])) (.cons (aar aew) rfl (.cons (aar adP) rfl (.cons (aar aem) rfl (.cons (aar ad9) rfl (.cons (aar aeP) rfl (.cons (aar aev) rfl (.cons (aar (aar aaf)) rfl (.cons (aar (aar aap)) rfl .nil)))))))))))) (Ent.refl)
       ·refine aaD ?_
        refine aad (aag (aaa ?_))
        refine rtn (aac (.tmp (aar aev))).q ?_
        refine rtn (aaB (o:=0) (i:=0) (k:=11) (us:=(cfL c l)) (.tmp (aar aev)) aaC (rfl) (by kernel_rfl) rfl rfl) ?_
        refine rtn (aac (.tmp aeX)).q ?_
        obtain ⟨ht0,ht1⟩:=apK (by assumption)
        have hat:atV (gi (aaI cs) j % 65536) c.tasks (abh c+1) 5=abh c+1+(gi (aaI cs) j % 65536)*5:=atM (by omega) (by omega)
        have hcell:gi cs (atV (gi (aaI cs) j % 65536) c.tasks (abh c+1) 5).toNat=ad8 cs (abh c+1+gi (aaI cs) j % 65536*5):=by rw [hat]; rfl
        refine rtn (aaw (by kernel_rfl) (.cons (.tmp aap) (.cons (.tmp aaf) .nil)) (an0 c l hn _ B W _)) ?_
        refine rtn (ack (i:=((atV (((gi (aaI cs) j) % 65536)) c.tasks (abh c+1) 5)).toNat) (.tmp aa1) (.tmp aaf) hS (by omega) (by omega) (by omega) (by kernel_rfl) (Nat.mul_one _)).q ?_
        refine rtn (aci (i:=((atV (((gi (aaI cs) j) % 65536)) c.tasks (abh c+1) 5)).toNat) (j:=0) (.tmp aaf) hS (adL (by omega)) rfl (by omega) (by kernel_rfl)) ?_
        refine rtn (aab (.tmp aaf)).q ?_
        refine aah (aad ?_)
        refine aag (aaa ?_)
        refine rtn (aac (.tmp (aar aeP))).q ?_
        refine rtn (abE (.tmp aaf) .const).q ?_
        refine rtn (aac (.tmp aaf)).q ?_
        refine abm aaR aaR (fun h15 =>?_) (fun h15 =>?_)
        ·have hf:(aeU c cs (aaI cs) q j).2.2=false:=by cases hx:(aeU c cs (aaI cs) q j).2.2 with | true =>exact absurd (ae9.1.2 hx) (by omega) | false =>rfl
         refine rtk aaf ?_
         refine rtk aap ?_
         refine rtk aaC ?_
         refine rtn (aat (b:=true) (.tmp aa1) .const).q ?_
         refine aah (aad ?_)
         refine acz (.tmp aaf) ?_
         refine aaa ?_
         refine rtn (aac (.tmp aev)).q ?_
         refine rtn (aac (.tmp adK)).q ?_
         refine aa5 (aab (.tmp aap)).q aae (aaj (aa0 (aa0 ael)) (by kernel_rfl)) ?_
         refine aa5 (aab (.tmp aap)).q aae (aaj (aa0 (aa0 ael)) (by kernel_rfl)) ?_
         refine aah ?_
         refine aa7 ?_
         refine aad (aaa ?_)
         refine rtn (aac (.tmp (aar (aar adz)))).q ?_
         refine rtn (aaM (.tmp aaf) .const (w64 (by omega) (by omega))).q ?_
         refine aa5 (aab (.tmp aaf)).q aae (aaj (aa0 (aa0 arF)) (by kernel_rfl)) ?_
         refine aah ?_
         have hgs:=ak7 (c:=c) (cs:=cs) (ks:=(aaI cs)) (q:=q) (j:=j) (by omega) (by omega) (ahQ (by assumption)) (by rw [hf,← hcell]; first | exact .inl rfl | exact .inr (by omega) | omega)
         exact abW (n:=98) ((j+1)) (⟨by omega,by omega,by omega⟩) (by omega) (.cons aaf (congrArg (Value.int .i64) (by first | rfl | omega | (simp; omega) | simp)) (.cons (aar (aar aff)) rfl (.cons aa1 (congrArg (Value.int .u64) (by rw [hgs]; first | exact hcell | rfl | simp [axf])) (.cons abk (congrArg (Value.int .i64) (by rw [hgs]; first | exact hcell | rfl | simp [axf])) (.cons (aar (aar acP)) rfl (.cons (aar (aar acT)) rfl (.cons (aar (aar aeg)) rfl (.cons (aar (aar ad3)) rfl (.cons (aar (aar aew)) rfl (.cons (aar (aar adP)) rfl (.cons (aar (aar aem)) rfl (.cons (aar (aar ad9)) rfl .nil)))))))))))) (Ent.refl)
        ·have hf:(aeU c cs (aaI cs) q j).2.2=true:=ae9.1.1 (by omega)
         refine rts (aac (.tmp aa1)).q aaf ?_
         refine rts (aac (.tmp (aar (aar aap)))).q aap ?_
         refine rts (acr (.tmp aap) (.tmp aaf)).q aaC ?_
         refine rtn (aat (b:=false) (.tmp aa1) (.tmp aaf)).q ?_
         refine aah (aad ?_)
         refine abT (.tmp aaf) (fun h16 =>?_) (fun h16 =>?_)
         ·refine aaa ?_
          refine rtn (aac (.tmp aev)).q ?_
          refine rtn (aac (.tmp adK)).q ?_
          refine aa5 (aab (.tmp aap)).q aae (aaj (aa0 (aa0 ael)) (by kernel_rfl)) ?_
          refine aa5 (aab (.tmp aap)).q aae (aaj (aa0 (aa0 ael)) (by kernel_rfl)) ?_
          refine aah ?_
          refine aa7 ?_
          refine aad (aaa ?_)
          refine rtn (aac (.tmp (aar (aar adz)))).q ?_
          refine rtn (aaM (.tmp aaf) .const (w64 (by omega) (by omega))).q ?_
          refine aa5 (aab (.tmp aaf)).q aae (aaj (aa0 (aa0 arF)) (by kernel_rfl)) ?_
          refine aah ?_
          have hgs:=ak7 (c:=c) (cs:=cs) (ks:=(aaI cs)) (q:=q) (j:=j) (by omega) (by omega) (ahQ (by assumption)) (by rw [hf,← hcell]; first | exact .inl rfl | exact .inr (by omega) | omega)
          exact abW (n:=98) ((j+1)) (⟨by omega,by omega,by omega⟩) (by omega) (.cons aaf (congrArg (Value.int .i64) (by first | rfl | omega | (simp; omega) | simp)) (.cons (aar (aar aff)) rfl (.cons aa1 (congrArg (Value.int .u64) (by rw [hgs]; first | exact hcell | rfl | simp [axf])) (.cons abk (congrArg (Value.int .i64) (by rw [hgs]; first | exact hcell | rfl | simp [axf])) (.cons (aar (aar acP)) rfl (.cons (aar (aar acT)) rfl (.cons (aar (aar aeg)) rfl (.cons (aar (aar ad3)) rfl (.cons (aar (aar aew)) rfl (.cons (aar (aar adP)) rfl (.cons (aar (aar aem)) rfl (.cons (aar (aar ad9)) rfl .nil)))))))))))) (Ent.refl)
         ·refine aaD ?_
          refine aa7 ?_
          refine aad (aaa ?_)
          refine rtn (aac (.tmp (aar (aar aaC)))).q ?_
          refine rtn (aaM (.tmp aaf) .const (w64 (by omega) (by omega))).q ?_
          refine aa5 (aab (.tmp aaf)).q aae (aaj (aa0 (aa0 ajm)) (by kernel_rfl)) ?_
          refine aah ?_
          have hgs:aeU c cs (aaI cs) q (j+1)=(aeU c cs (aaI cs) q j):=by first | exact aoG (by omega) (by omega) (ai2 (by assumption)) | exact ajv (by omega) (by omega) (by rw [hf,← hcell]; intro hh; rcases hh with hh | hh; cases hh; omega)
          exact abW (n:=98) ((j+1)) (⟨by omega,by omega,by omega⟩) (by omega) (.cons aaf (congrArg (Value.int .i64) (by first | rfl | omega | (simp; omega) | simp)) (.cons (aar (aar acU)) rfl (.cons (aar (aar adz)) (congrArg (Value.int .u64) (by rw [hgs])) (.cons (aar (aar aeX)) (congrArg (Value.int .i64) (by rw [hgs])) (.cons (aar (aar adK)) rfl (.cons (aar (aar aff)) rfl (.cons (aar (aar acP)) rfl (.cons (aar (aar acT)) rfl (.cons (aar (aar aeg)) rfl (.cons (aar (aar ad3)) rfl (.cons (aar (aar aew)) rfl (.cons (aar (aar adP)) rfl .nil)))))))))))) (Ent.refl)
      ·refine aco ?_
       refine aaq ?_
       refine aaq ?_
       refine aaK ?_
       refine aad (aag (aaa ?_))
       refine rtn (aac (.tmp aew)).q ?_
       refine rtn (acr (.tmp aaf) .const).q ?_
       refine aah (aad ?_)
       refine abT (.tmp aaf) (fun h17 =>?_) (fun h17 =>?_)
       ·refine aag (aaa ?_)
        refine rtn (aac (.tmp aem)).q ?_
        refine rtn (aab (.tmp aaf)).q ?_
        refine rtn (aab .const).q ?_
        refine aah (aad (aaz ?_))
        refine abK ?_
        refine aao (aao ?_)
        refine abK ?_
        refine aao ?_
        exact aaN rfl (.cons aap (.cons aaf .nil)) (by simp only [abN]; rw [hq1,arU (j:=j) hksl (by omega) (by omega) (by omega) (by omega) (ae9.1.1 (by omega)),aqs (ae9.1.1 (by omega))]; rfl) (Ent.drop.trans (Ent.drop.trans Ent.drop))
       ·refine aaD ?_
        refine aa7 ?_
        refine aad (aaa ?_)
        refine rtn (aac (.tmp (aar aaf))).q ?_
        refine rtn (aan (k:=6) (o':=6) (.tmp (aar abk)) (by kernel_rfl) (by rfl)).q ?_
        refine rtn (aax (o:=0) (i:=6) (.tmp aaf) aaC (rfl) rfl (by kernel_rfl)) ?_
        refine rtn (aaM (.tmp aaC) (.tmp aaf) (w64 (by omega) (by omega))).q ?_
        refine aa5 (aab (.tmp aaf)).q aae (aaj (aa0 ajm) (by kernel_rfl)) ?_
        refine aah ?_
        exact abW (n:=98) ((q+c.batch.toNat)) (⟨by omega,by rw [hq1]; exact aw4 (j:=j) (by omega) hksl (by omega) (by omega) (by omega) (by omega) (by cases hx:(aeU c cs (aaI cs) q j).2.2 with | true =>exact absurd (ae9.1.2 hx) (by omega) | false =>rfl)⟩) (by omega) (.cons aaf (congrArg (Value.int .i64) (by first | rfl | omega | (simp; omega) | simp)) (.cons (aar acU) rfl (.cons (aar adz) rfl (.cons (aar aeX) rfl (.cons (aar adK) rfl .nil))))) (Ent.refl)
     ·refine rtk aaf ?_
      refine rtk aap ?_
      refine rtk aaC ?_
      refine rtk aa1 ?_
      refine rtk abk ?_
      refine rtk acU ?_
      refine rtn (aat (b:=false) (.tmp adz) .const).q ?_
      refine aah (aad ?_)
      refine afK (.tmp aaf) ?_
      refine aco ?_
      refine aaq ?_
      refine aaq ?_
      refine aaK ?_
      refine aad (aag (aaa ?_))
      refine rtn (aac (.tmp aew)).q ?_
      refine rtn (acr (.tmp aaf) .const).q ?_
      refine aah (aad ?_)
      refine abT (.tmp aaf) (fun h18 =>?_) (fun h18 =>?_)
      ·refine aag (aaa ?_)
       refine rtn (aac (.tmp aem)).q ?_
       refine rtn (aab (.tmp aaf)).q ?_
       refine rtn (aab .const).q ?_
       refine aah (aad (aaz ?_))
       refine abK ?_
       refine aao (aao ?_)
       refine abK ?_
       refine aao ?_
       exact aaN rfl (.cons aap (.cons aaf .nil)) (by simp only [abN]; rw [hq1,arU (j:=j) hksl (by omega) (by omega) (by omega) (by omega) (ae9.1.1 (by omega)),aqs (ae9.1.1 (by omega))]; rfl) (Ent.drop.trans (Ent.drop.trans Ent.drop))
      ·refine aaD ?_
       refine aa7 ?_
       refine aad (aaa ?_)
       refine rtn (aac (.tmp (aar aaf))).q ?_
       refine rtn (aan (k:=6) (o':=6) (.tmp (aar abk)) (by kernel_rfl) (by rfl)).q ?_
       refine rtn (aax (o:=0) (i:=6) (.tmp aaf) aaC (rfl) rfl (by kernel_rfl)) ?_
       refine rtn (aaM (.tmp aaC) (.tmp aaf) (w64 (by omega) (by omega))).q ?_
       refine aa5 (aab (.tmp aaf)).q aae (aaj (aa0 ajm) (by kernel_rfl)) ?_
       refine aah ?_
       exact abW (n:=98) ((q+c.batch.toNat)) (⟨by omega,by rw [hq1]; exact aw4 (j:=j) (by omega) hksl (by omega) (by omega) (by omega) (by omega) (by cases hx:(aeU c cs (aaI cs) q j).2.2 with | true =>exact absurd (ae9.1.2 hx) (by omega) | false =>rfl)⟩) (by omega) (.cons aaf (congrArg (Value.int .i64) (by first | rfl | omega | (simp; omega) | simp)) (.cons (aar acU) rfl (.cons (aar adz) rfl (.cons (aar aeX) rfl (.cons (aar adK) rfl .nil))))) (Ent.refl)
    ·refine aco ?_
     refine aaq ?_
     refine aaq ?_
     refine aaK ?_
     refine aad (aag (aaa ?_))
     refine rtn (aab .const).q ?_
     refine rtn (aab .const).q ?_
     refine aah (aad (aaz ?_))
     exact aaN rfl (.cons aap (.cons aaf .nil)) (by simp only [abN]; first | (rw [ak6 (by omega)]; rfl) | (rw [hq1,arV hksl (by omega)]; rfl)) (Ent.drop.trans (Ent.drop.trans Ent.drop))
theorem amj {c:Cfg} {cs:List Int} {w:Int}:∀ k:Nat,((acA c cs w k).1=[]∧(acA c cs w k).2=-1)∨((acA c cs w k).1≠[]∧0≤(acA c cs w k).2∧(acA c cs w k).2<k∧(∀ t∈(acA c cs w k).1,0≤t∧t<c.tasks))
 | 0 =>.inl ⟨rfl,rfl⟩
 | k+1 =>by
  rw [acA]
  split
  ·rename_i h
   refine .inr ⟨h,by show (0:Int)≤k; omega,by show (k:Int)<(k+1:Nat); omega,fun t ht =>?_⟩
   have:=(List.mem_filter.1 ht).2
   simp [acO] at this
   exact ⟨this.1.1,this.1.2⟩
  ·rcases amj k with h | ⟨h1,h2,h3,h4⟩
   ·exact .inl h
   ·exact .inr ⟨h1,h2,by omega,h4⟩
theorem ao5 (c:Cfg) (cs:List Int) (w:Int) (hl:1≤c.levels):((abw c cs w).1=[]∧(abw c cs w).2=-1)∨((abw c cs w).1≠[]∧0≤(abw c cs w).2∧(abw c cs w).2<c.levels∧(∀ t∈(abw c cs w).1,0≤t∧t<c.tasks)):=by
 rcases amj (c:=c) (cs:=cs) (w:=w) c.levels.toNat with h | ⟨h1,h2,h3,h4⟩
 ·exact .inl h
 ·exact .inr ⟨h1,h2,by unfold abw; omega,h4⟩
theorem akL {c:Cfg} {cs:List Int} {w:Int} (hd:c.deque≤64):∀ k:Nat,(acA c cs w k).1.length≤64
 | 0 =>by simp [acA]
 | k+1 =>by
  rw [acA]
  split
  ·exact Nat.le_trans (List.length_filter_le _ _) (aoT hd)
  ·exact akL hd k
theorem ajH (c:Cfg) (cs:List Int) (w:Int) (hd:c.deque≤64):(abw c cs w).1.length≤64:=akL hd _
theorem ahH {c:Cfg} {cs:List Int} {w:Int} (hl:1≤c.levels) (h:0≤(abw c cs w).2):(abw c cs w).1≠[]∧1≤(abw c cs w).1.length∧(∀ t∈(abw c cs w).1,0≤t∧t<c.tasks)∧(abw c cs w).2<c.levels:=by
 rcases ao5 c cs w hl with h1 | ⟨h1,h2,h3,h4⟩
 ·omega
 ·refine ⟨h1,?_,h4,h3⟩
  cases hx:(abw c cs w).1 with
  | nil =>exact absurd hx h1
  | cons _ _ =>simp
theorem ami {c:Cfg} {cs:List Int} {w:Int} (hl:1≤c.levels) (h:¬ 0≤(abw c cs w).2):(abw c cs w).1=[]∧(abw c cs w).2=-1:=by
 rcases ao5 c cs w hl with h1 | ⟨h1,h2,h3,h4⟩
 ·exact h1
 ·omega
theorem ao4 {c:Cfg} {cs:List Int} {w:Int} (hl:1≤c.levels):0<(abw c cs w).1.length↔0≤(abw c cs w).2:=by
 rcases ao5 c cs w hl with h1 | ⟨h1,h2,h3,h4⟩
 ·rw [h1.1,h1.2]; simp
 ·have:=(ahH hl h2).2.1; omega
theorem akU {c:Cfg} {cs:List Int} {d w:Int} (hw:1≤c.workers) (hl:1≤c.levels):∀ i,((aaJ c cs d w i).1=-1∧(aaJ c cs d w i).2=-1)∨(0≤(aaJ c cs d w i).1∧(aaJ c cs d w i).1<c.workers∧(aaJ c cs d w i).2=(abw c cs (aaJ c cs d w i).1).2∧0≤(aaJ c cs d w i).2)
 | 0 =>.inl ⟨rfl,rfl⟩
 | i+1 =>by
  have h:=akU (cs:=cs) (d:=d) (w:=w) hw hl i
  rw [aaJ]
  show _∨_
  split
  ·rename_i hc
   refine .inr ⟨Int.emod_nonneg _ (by omega),Int.emod_lt_of_pos _ (by omega),rfl,?_⟩
   have h2:=hc.2
   show 0≤(abw c cs _).2
   rcases h with h | h<;>omega
  ·exact h
def stT (c:Cfg) (cs:List Int) (d w:Int) (i:Nat):Int:=if (aaJ c cs d w i).1<0 then -1 else gi (abw c cs (aaJ c cs d w i).1).1 0
theorem aD7 {xs:List Int} {i:Nat} (h:i<xs.length):gi xs i∈xs:=List.mem_iff_getElem?.2 ⟨i,adL h⟩
theorem aDd {c:Cfg} {cs:List Int} {d w:Int} (hw:1≤c.workers) (hl:1≤c.levels) (i:Nat):-1≤stT c cs d w i∧stT c cs d w i<c.tasks+1∧(0≤stT c cs d w i↔0≤(aaJ c cs d w i).1) ∧ -1≤(aaJ c cs d w i).2∧(aaJ c cs d w i).2≤c.levels∨c.tasks<0:=by
 by_cases ht:c.tasks<0
 ·exact .inr ht
 left
 unfold stT
 rcases akU (cs:=cs) (d:=d) (w:=w) hw hl i with h | ⟨h1,h2,h3,h4⟩
 ·rw [if_pos (by omega)]; omega
 ·rw [if_neg (by omega)]
  obtain ⟨b1,b2,b3,b4⟩:=ahH (cs:=cs) (w:=(aaJ c cs d w i).1) hl (by omega)
  have b5:=b3 _ (aD7 b2)
  omega
theorem avo {c:Cfg} {cs:List Int} {d w v:Int} {i:Nat} (hv:v=(acJ d c.workers+i) % c.workers) (h1:v≠w) (h2:(aaJ c cs d w i).2<(abw c cs v).2):aaJ c cs d w (i+1)=(v,(abw c cs v).2):=by
 subst hv; rw [aaJ]; exact if_pos ⟨h1,h2⟩
theorem asC {c:Cfg} {cs:List Int} {d w v:Int} {i:Nat} (hv:v=(acJ d c.workers+i) % c.workers) (h:¬ (v≠w∧(aaJ c cs d w i).2<(abw c cs v).2)):aaJ c cs d w (i+1)=aaJ c cs d w i:=by
 subst hv; rw [aaJ]; exact if_neg h
theorem aBj {c:Cfg} {cs:List Int} {d w v:Int} {i:Nat} (hs:aaJ c cs d w (i+1)=(v,(abw c cs v).2)) (h0:0≤v):stT c cs d w (i+1)=gi (abw c cs v).1 0:=by
 unfold stT; rw [hs]; exact if_neg (by show ¬ v<0; omega)
theorem aAq {c:Cfg} {cs:List Int} {d w:Int} {i:Nat} (hs:aaJ c cs d w (i+1)=aaJ c cs d w i):stT c cs d w (i+1)=stT c cs d w i:=by
 unfold stT; rw [hs]
theorem aj5 {c:Cfg} {cs:List Int} {w:Int} (h0:abB c=0) (hl:(cs.length:Int)=aaQ c) (hw:0≤w∧w<c.workers):ajw c cs w=true:=by simp [ajw,h0,hl,hw]
theorem anv {c:Cfg} {cs:List Int} {w:Int} (h:ajw c cs w=true):abB c=0∧(cs.length:Int)=aaQ c∧0≤w∧w<c.workers:=by
 simp [ajw] at h; exact ⟨h.1.1.1,h.1.1.2,h.1.2,h.2⟩
theorem aos {c:Cfg} {cs:List Int} {d w:Int} (h:ajw c cs w=false):ada c cs d w=none:=by unfold ada; exact if_pos h
theorem aqf {c:Cfg} {cs:List Int} {d w:Int} (h:ajw c cs w=true) (hl:1≤c.levels) (hb:0≤(abw c cs w).2) {k:Nat} (hk:k+1=(abw c cs w).1.length):ada c cs d w=some (gi (abw c cs w).1 k):=by
 unfold ada; rw [if_neg (by rw [h]; simp),if_pos (ahH hl hb).1,List.getLast?_eq_getElem?,← hk,Nat.add_sub_cancel]
 exact adL (by omega)
theorem as8 {c:Cfg} {cs:List Int} {d w:Int} (h:ajw c cs w=true) (hl:1≤c.levels) (hb:¬ 0≤(abw c cs w).2) (hi:(amD c cs).isSome=true):ada c cs d w=amD c cs:=by
 unfold ada; rw [if_neg (by rw [h]; simp),if_neg (by rw [(ami hl hb).1]; simp)]
 cases hx:amD c cs with
 | none =>rw [hx] at hi; cases hi
 | some t =>rfl
theorem anl {c:Cfg} {cs:List Int} {d w:Int} (h:ajw c cs w=true) (hw:1≤c.workers) (hl:1≤c.levels) (hb:¬ 0≤(abw c cs w).2) (hi:(amD c cs).isSome=false) {i:Nat} (hi2:i=c.workers.toNat) :
  ada c cs d w=if (aaJ c cs d w i).1<0 then none else some (stT c cs d w i):=by
 unfold ada; rw [if_neg (by rw [h]; simp),if_neg (by rw [(ami hl hb).1]; simp)]
 subst hi2
 cases hx:amD c cs with
 | some t =>rw [hx] at hi; cases hi
 | none =>
  show (if (aaJ c cs d w c.workers.toNat).1<0 then none else (abw c cs (aaJ c cs d w c.workers.toNat).1).1.head?)=_
  by_cases hs:(aaJ c cs d w c.workers.toNat).1<0
  ·rw [if_pos hs,if_pos hs]
  ·rw [if_neg hs,if_neg hs]
   unfold stT
   rw [if_neg hs,List.head?_eq_getElem?]
   rcases akU (cs:=cs) (d:=d) (w:=w) hw hl c.workers.toNat with h1 | ⟨h1,h2,h3,h4⟩
   ·omega
   ·exact adL (ahH hl (by omega)).2.1
theorem akc (c:Cfg) (cs:List Int) (w:Int) (hl:1≤c.levels∧c.levels≤64):-1≤(abw c cs w).2∧(abw c cs w).2<64:=by
 rcases ao5 c cs w hl.1 with h | h<;>omega
theorem avp {p t:Int} (h:0≤t↔0≤p) (ht:-1≤t):Value.tuple #[.int .i64 (if 0<t then t else 0),.bool (decide (0≤t))]=.tuple #[.int .i64 ((if p<0 then none else some t:Option Int).getD 0),.bool (if p<0 then none else some t:Option Int).isSome]:=by
 by_cases hp:p<0
 ·rw [if_pos hp]
  have e1:¬ 0<t:=by omega
  have e2:¬ 0≤t:=by omega
  simp [e1,e2]
 ·rw [if_neg hp]
  have e2:0≤t:=by omega
  by_cases e1:0<t
  ·simp [e1,e2]
  ·simp [show t=0 by omega]
set_option maxRecDepth 100000 in
theorem apI (c:Cfg) (l:CfgAt) (CA:Option Addr) (cc:Nat) (cs:List Int) (hn:CNums c) (hl:(cs.length:Int)=aaQ c) (hv0:abB c=0) (d w:Int) (hw:0≤w∧w<c.workers) {B:Nat} {W:World} (hS:Sl afJ 1 W B CA cs) (hcw:CWf cs) (hc:acR W B c l) (L:List aak):adV Tryz.prog 36 #[acM c l,.slice CA cs.length cc,.int .i64 d,.int .i64 w] B W L (.tuple #[.int .i64 ((ada c cs d w).getD 0),.bool (ada c cs d w).isSome]):=by
 have hd:=hn.d
 have hlv:=hn.l
 have hww:=hn.w
 have htt:=hn.t
 have hgb:=aj5 (cs:=cs) hv0 hl hw
 obtain ⟨b1,b2⟩:=akc c cs w hlv
 have hbi:=ao4 (c:=c) (cs:=cs) (w:=w) hlv.1
 have hbl:=ajH c cs w hd.2
 refine aay Tryz.func36 rfl (m:=96) rfl (Nat.le_of_ble_eq_true rfl) (R:=[(0,acM c l),(1,.slice CA cs.length cc),(2,.int .i64 d),(3,.int .i64 w)]) (by kernel_rfl) ?_
 refine aag (aaa ?_)
 refine rtm (abX (.tmp aaf) (us:=(cfL c l)) rfl) ?_
 rintro b1
 refine rtn (aab .const).q ?_
 refine rtn (aab .const).q ?_
 refine aah (aad ?_)
 refine aag (aag (aaa ?_))
 refine rtn (aaB (o:=0) (i:=0) (k:=11) (us:=(cfL c l)) (.tmp aaC) aaf (rfl) (by kernel_rfl) rfl rfl) ?_
 refine rtn (aac (.tmp acU)).q ?_
 refine rtn (aaw (by kernel_rfl) (.cons (.tmp aap) (.cons (.tmp aaf) .nil)) (afz c l CA cc cs hS hcw hc _)) ?_
 refine rtn (ap7 (.tmp aaf)).q ?_
 refine rtn (aac (.tmp aaf)).q ?_
 refine abm aaR aaR (fun h2 =>?_) (fun h2 =>?_)
 ·exact absurd ⟨hv0,hl⟩ h2
 ·refine rts (aac (.tmp acT)).q aaf ?_
  refine rts (abE (.tmp aaf) .const).q aap ?_
  refine rtn (aat (b:=false) (.tmp aaC) (.tmp aaf)).q ?_
  refine rtn (aac (.tmp aaf)).q ?_
  refine abm aaR aaR (fun h3 =>?_) (fun h3 =>?_)
  ·exact absurd h3 (by omega)
  ·refine rts (aac (.tmp adP)).q aaf ?_
   refine rts (aan (k:=0) (o':=0) (.tmp aeg) (by kernel_rfl) (by rfl)).q aap ?_
   refine rts (aax (o:=0) (i:=0) (.tmp aaf) aaf (rfl) rfl (by kernel_rfl)) aaC ?_
   refine rts (acr (.tmp aaC) (.tmp aaf)).q aa1 ?_
   refine rtn (aat (b:=false) (.tmp abk) (.tmp aaf)).q ?_
   refine aah (aad ?_)
   refine abT (.tmp aaf) (fun h4 =>?_) (fun h4 =>?_)
   ·exact absurd h4 (by omega)
   ·refine aaD ?_
    refine aad (aag ?_)
    refine aag (aaa ?_)
    refine rtn (aaB (o:=0) (i:=0) (k:=11) (us:=(cfL c l)) (.tmp aem) aaf (rfl) (by kernel_rfl) rfl rfl) ?_
    refine rtn (aac (.tmp aev)).q ?_
    refine rtn (aac (.tmp (aar aaC))).q ?_
    refine rtm (adj (by kernel_rfl) (.cons (.tmp aaC) (.cons (.tmp aap) (.cons (.tmp aaf) .nil))) (aij c l CA cc cs hv0 hn hl _ (by omega) hS hcw hc) .nil) ?_
    rintro ⟨A5,c5⟩
    refine rtn (aac (.tmp aaf)).q ?_
    refine rtn (aaA (.tmp aaf) rfl).q ?_
    refine rtn (aaA (.tmp aap) rfl).q ?_
    refine rtn (aab (.tmp aap)).q ?_
    refine rtn (aab (.tmp aap)).q ?_
    refine aah (aad ?_)
    refine aag (aaa ?_)
    refine rtn (aac (.tmp aap)).q ?_
    refine rtn (adq (.tmp aaf) Tryz.underlying24).q ?_
    refine rtn (afI (.tmp aaf) .const).q ?_
    refine aah (aad ?_)
    refine abT (.tmp aaf) (fun h6 =>?_) (fun h6 =>?_)
    ·refine aag (aaa ?_)
     refine rtn (aac (.tmp abk)).q ?_
     refine rtn (aac (.tmp acU)).q ?_
     refine rtn (adq (.tmp aaf) Tryz.underlying24).q ?_
     refine rtn (ae3 (.tmp aaf) .const (w64 (by omega) (by omega))).q ?_
     refine rtn (acj (i:=(((((abw c cs w).1.length:Nat):Int)-1)).toNat) (.tmp aa1) (.tmp aaf) aaf (by omega) (by omega) (by omega) (by kernel_rfl) (Nat.mul_one _)) ?_
     refine rtn (adk (i:=(((((abw c cs w).1.length:Nat):Int)-1)).toNat) (.tmp aaf) aaf (agb (by first | omega | (simp; omega))) (by kernel_rfl)) ?_
     refine aa5 (aab (.tmp aaf)).q aae (aaj (aa0 afG) (by kernel_rfl)) ?_
     refine aa5 (aab .const).q aae (aaj (aa0 afG) (by kernel_rfl)) ?_
     refine aah (aad ?_)
     refine aaz (aao ?_)
     exact aaN rfl (.cons aap (.cons aaf .nil)) (by have hix:(((abw c cs w).1.length:Int)-1).toNat=(abw c cs w).1.length-1:=(by omega); simp only [abN,hix]; rw [aqf hgb hlv.1 (by omega) (k:=(abw c cs w).1.length-1) (by omega)]; rfl) (Ent.drop.trans Ent.drop)
    ·refine aaD ?_
     refine aad (aag ?_)
     refine aag (aaa ?_)
     refine rtn (aaB (o:=0) (i:=0) (k:=11) (us:=(cfL c l)) (.tmp (aar adK)) aap (rfl) (by kernel_rfl) rfl rfl) ?_
     refine rtn (aac (.tmp (aar acT))).q ?_
     refine rtn (aaw (by kernel_rfl) (.cons (.tmp aap) (.cons (.tmp aaf) .nil)) (arh c l CA cc cs hn hl hS hcw _)) ?_
     refine rtn (aac (.tmp aaf)).q ?_
     refine rtn (aaA (.tmp aaf) rfl).q ?_
     refine rtn (aaA (.tmp aap) rfl).q ?_
     refine rtn (aab (.tmp aap)).q ?_
     refine rtn (aab (.tmp aap)).q ?_
     refine aah (aad ?_)
     refine aag (aaa ?_)
     refine rtn (aac (.tmp aaf)).q ?_
     refine aah (aad ?_)
     refine ajA (.tmp aaf) (fun h7 =>?_) (fun h7 =>?_)
     ·refine aag (aaa ?_)
      refine rtn (aac (.tmp aaC)).q ?_
      refine aa5 (aab (.tmp aaf)).q aae (aaj (aa0 ahv) (by kernel_rfl)) ?_
      refine aa5 (aab .const).q aae (aaj (aa0 ahv) (by kernel_rfl)) ?_
      refine aah (aad ?_)
      refine aaz (aao ?_)
      exact aaN rfl (.cons aap (.cons aaf .nil)) (by simp only [abN]; rw [as8 hgb hlv.1 (by omega) (by assumption)]; simp [*]) (Ent.drop.trans Ent.drop)
     ·refine aaD ?_
      refine aad (aag (aaa ?_))
      refine rtn (aab .const).q ?_
      refine rtn (aab .const).q ?_
      refine aah (aad ?_)
      refine aag (aag (aaa ?_))
      refine rtn (aab .const).q ?_
      refine aah (aad ?_)
      refine aaU ?_
      refine aey (X:=Nat) (fun i =>c.workers.toNat-i) (fun i =>(i:Int)≤c.workers) (fun i =>[(16,.int .i64 ((i:Int))),(15,.int .i64 ((aaJ c cs d w i).2)),(14,.int .i64 ((stT c cs d w i))),(9,.bool false),(8,.int .i64 0),(4,.pointer (some ⟨b1,0,none⟩)),(1,.slice CA cs.length cc),(2,.int .i64 d),(3,.int .i64 w)]) (fun i =>pts b1 0 (cfL c l)::L) 0 (by omega) (.cons aaf (congrArg (Value.int .i64) (by first | rfl | omega | (simp; omega) | simp)) (.cons aap (congrArg (Value.int .i64) (by first | rfl | omega | (simp; omega) | simp)) (.cons aaC (congrArg (Value.int .i64) (by first | rfl | omega | (simp; omega) | simp)) (.cons (aar aeP) rfl (.cons (aar aev) rfl (.cons (aar (aar aaf)) rfl (.cons (aar (aar aaC)) rfl (.cons (aar (aar aa1)) rfl (.cons (aar (aar abk)) rfl .nil))))))))) (Ent.drop) (fun i hi8 =>?_)
      have hi0:=hi8
      have hst:=(aDd (c:=c) (cs:=cs) (d:=d) (w:=w) hww.1 hlv.1 i).resolve_right (by omega)
      refine aag (aag (aaa ?_))
      refine rtn (aac (.tmp aaf)).q ?_
      refine rtn (aan (k:=0) (o':=0) (.tmp adz) (by kernel_rfl) (by rfl)).q ?_
      refine rtn (aax (o:=0) (i:=0) (.tmp aaf) aaf (rfl) rfl (by kernel_rfl)) ?_
      refine rtn (abE (.tmp aaC) (.tmp aaf)).q ?_
      refine aah (aad ?_)
      refine abT (.tmp aaf) (fun h9 =>?_) (fun h9 =>?_)
      ·refine aaD ?_
       refine aad (aag ?_)
       refine aaU ?_
       refine aag ?_
       refine ad4 (by kernel_rfl) (by kernel_rfl) ?_
       refine qtn (aac (.tmp acT)).q ?_
       refine qtn (aan (k:=0) (o':=0) (.tmp acP) (by kernel_rfl) (by rfl)).q ?_
       refine qtn (aax (o:=0) (i:=0) (.tmp aaf) aaf (rfl) rfl (by kernel_rfl)) ?_
       have hdr:=al8 (d:=d) (n:=c.workers) (by omega)
       refine qtn (aaw (by kernel_rfl) (.cons (.tmp aaC) (.cons (.tmp aaf) .nil)) (axB _ _ (by omega) _)) ?_
       refine qtn (aac (.tmp adK)).q ?_
       refine qtn (aaM (.tmp aap) (.tmp aaf) (w64 (by omega) (by omega))).q ?_
       refine qtn (aan (k:=0) (o':=0) (.tmp adP) (by kernel_rfl) (by rfl)).q ?_
       refine qtn (aax (o:=0) (i:=0) (.tmp aaf) aaf (rfl) rfl (by kernel_rfl)) ?_
       refine qtn (akA (.tmp aaC) (.tmp aaf) (by omega) (at7 (by omega))).q ?_
       refine qtn (aab (.tmp aaf)).q ?_
       refine adI (aad ?_)
       refine aag (aaa ?_)
       refine rtn (aaB (o:=0) (i:=0) (k:=11) (us:=(cfL c l)) (.tmp aev) aaf (rfl) (by kernel_rfl) rfl rfl) ?_
       refine rtn (aac (.tmp (aar aap))).q ?_
       refine rtn (aac (.tmp aaC)).q ?_
       have hv1:=Int.emod_nonneg (acJ d c.workers+(i:Int)) (show c.workers≠0 by omega)
       have hv2:=Int.emod_lt_of_pos (acJ d c.workers+(i:Int)) (show 0<c.workers by omega)
       have hbv:=akc c cs ((acJ d c.workers+(i:Int)) % c.workers) hlv
       have hbvi:=ao4 (c:=c) (cs:=cs) (w:=((acJ d c.workers+(i:Int)) % c.workers)) hlv.1
       have hbvl:=ajH c cs ((acJ d c.workers+(i:Int)) % c.workers) hd.2
       refine rtm (adj (by kernel_rfl) (.cons (.tmp aaC) (.cons (.tmp aap) (.cons (.tmp aaf) .nil))) (aij c l CA cc cs hv0 hn hl _ (by omega) hS hcw hc) .nil) ?_
       rintro ⟨A10,c10⟩
       refine rtn (aac (.tmp aaf)).q ?_
       refine rtn (aaA (.tmp aaf) rfl).q ?_
       refine rtn (aaA (.tmp aap) rfl).q ?_
       refine rtn (aab (.tmp aap)).q ?_
       refine rtn (aab (.tmp aap)).q ?_
       refine aah (aad ?_)
       refine aag (aaa ?_)
       refine rtn (aac (.tmp aff)).q ?_
       refine rtn (aac (.tmp (aar aeg))).q ?_
       refine rtn (agZ (.tmp aap) (.tmp aaf)).q ?_
       refine rtn (aac (.tmp aaf)).q ?_
       refine abm aaR aaR (fun h11 =>?_) (fun h11 =>?_)
       ·refine rts (aac (.tmp abk)).q aaf ?_
        refine rts (aac (.tmp (aar aff))).q aap ?_
        refine rts (afI (.tmp aap) (.tmp aaf)).q aaC ?_
        refine rtn (aat (b:=true) (.tmp aa1) (.tmp aaf)).q ?_
        refine aah (aad ?_)
        refine abT (.tmp aaf) (fun h12 =>?_) (fun h12 =>?_)
        ·refine aaa ?_
         refine rtn (aac (.tmp aff)).q ?_
         refine rtn (acj (i:=0) (.tmp aaf) .const aaf (by omega) (by omega) (by omega) (by kernel_rfl) (Nat.mul_one _)) ?_
         refine rtn (adk (i:=0) (.tmp aaf) aaf (agb (by first | omega | (simp; omega))) (by kernel_rfl)) ?_
         refine rtn (aac (.tmp acT)).q ?_
         refine aa5 (aab (.tmp aap)).q aae (aaj (aa0 ahv) (by kernel_rfl)) ?_
         refine aa5 (aab (.tmp aap)).q aae (aaj (aa0 ahv) (by kernel_rfl)) ?_
         refine aah ?_
         refine aa7 ?_
         refine aad (aaa ?_)
         refine rtn (aac (.tmp (aar ad9))).q ?_
         refine rtn (aaM (.tmp aaf) .const (w64 (by omega) (by omega))).q ?_
         refine aa5 (aab (.tmp aaf)).q aae (aaj (aa0 agY) (by kernel_rfl)) ?_
         refine aah ?_
         have hgs:=avo (c:=c) (cs:=cs) (d:=d) (w:=w) (v:=((acJ d c.workers+(i:Int)) % c.workers)) (i:=i) rfl (by omega) (by omega)
         have hgt:=aBj hgs (by omega)
         exact abW (n:=96) ((i+1)) (by omega) (by omega) (.cons aaf (congrArg (Value.int .i64) (by first | rfl | omega | (simp; omega) | simp)) (.cons aa1 (congrArg (Value.int .i64) (by rw [hgs])) (.cons abk (congrArg (Value.int .i64) (by rw [hgt])) (.cons (aar (aar aaf)) rfl (.cons (aar (aar aap)) rfl (.cons (aar (aar aaC)) rfl (.cons (aar (aar aa1)) rfl (.cons (aar (aar abk)) rfl (.cons (aar (aar acU)) rfl .nil))))))))) (Ent.drop)
        ·refine aaD ?_
         refine aa7 ?_
         refine aad (aaa ?_)
         refine rtn (aac (.tmp (aar acT))).q ?_
         refine rtn (aaM (.tmp aaf) .const (w64 (by omega) (by omega))).q ?_
         refine aa5 (aab (.tmp aaf)).q aae (aaj (aa0 afG) (by kernel_rfl)) ?_
         refine aah ?_
         have hgs:aaJ c cs d w (i+1)=(aaJ c cs d w i):=asC (v:=((acJ d c.workers+(i:Int)) % c.workers)) rfl (by omega)
         have hgt:=aAq hgs
         exact abW (n:=96) ((i+1)) (by omega) (by omega) (.cons aaf (congrArg (Value.int .i64) (by first | rfl | omega | (simp; omega) | simp)) (.cons (aar aew) (congrArg (Value.int .i64) (by rw [hgs])) (.cons (aar adP) (congrArg (Value.int .i64) (by rw [hgt])) (.cons (aar aem) rfl (.cons (aar ad9) rfl (.cons (aar aeP) rfl (.cons (aar aev) rfl (.cons (aar (aar aaf)) rfl (.cons (aar (aar aap)) rfl .nil))))))))) (Ent.drop)
       ·refine rtk aaf ?_
        refine rtk aap ?_
        refine rtk aaC ?_
        refine rtn (aat (b:=false) (.tmp aa1) .const).q ?_
        refine aah (aad ?_)
        refine afK (.tmp aaf) ?_
        refine aaD ?_
        refine aa7 ?_
        refine aad (aaa ?_)
        refine rtn (aac (.tmp (aar acT))).q ?_
        refine rtn (aaM (.tmp aaf) .const (w64 (by omega) (by omega))).q ?_
        refine aa5 (aab (.tmp aaf)).q aae (aaj (aa0 afG) (by kernel_rfl)) ?_
        refine aah ?_
        have hgs:aaJ c cs d w (i+1)=(aaJ c cs d w i):=asC (v:=((acJ d c.workers+(i:Int)) % c.workers)) rfl (by omega)
        have hgt:=aAq hgs
        exact abW (n:=96) ((i+1)) (by omega) (by omega) (.cons aaf (congrArg (Value.int .i64) (by first | rfl | omega | (simp; omega) | simp)) (.cons (aar aew) (congrArg (Value.int .i64) (by rw [hgs])) (.cons (aar adP) (congrArg (Value.int .i64) (by rw [hgt])) (.cons (aar aem) rfl (.cons (aar ad9) rfl (.cons (aar aeP) rfl (.cons (aar aev) rfl (.cons (aar (aar aaf)) rfl (.cons (aar (aar aap)) rfl .nil))))))))) (Ent.drop)
      ·refine aco ?_
       refine aaq ?_
       refine aaq ?_
       refine aaK ?_
       refine aad (aag (aaa ?_))
       refine rtn (aac (.tmp adz)).q ?_
       refine rtn (aAE .const (.tmp aaf)).q ?_
       refine rtn (aac (.tmp adK)).q ?_
       refine rtn (acr (.tmp aaf) .const).q ?_
       refine aa5 (aab (.tmp aaC)).q aae (aaj afH (by kernel_rfl)) ?_
       refine aa5 (aab (.tmp aap)).q aae (aaj afH (by kernel_rfl)) ?_
       refine aah (aad (aaz ?_))
       exact aaN rfl (.cons aap (.cons aaf .nil)) (by simp only [abN]; rw [anl hgb hww.1 hlv.1 (by omega) (by assumption) (i:=i) (by omega)]; exact avp (by omega) (by omega)) Ent.drop
set_option maxRecDepth 100000 in
theorem arf (c:Cfg) (l:CfgAt) (CA:Option Addr) (cc:Nat) (cs:List Int) (d w:Int) (hb:¬ (abB c=0∧(cs.length:Int)=aaQ c∧0≤w∧w<c.workers)) {B:Nat} {W:World} (hS:Sl afJ 1 W B CA cs) (hcw:CWf cs) (hc:acR W B c l) (L:List aak):adV Tryz.prog 36 #[acM c l,.slice CA cs.length cc,.int .i64 d,.int .i64 w] B W L (.tuple #[.int .i64 0,.bool false]):=by
 refine aay Tryz.func36 rfl (m:=96) rfl (Nat.le_of_ble_eq_true rfl) (R:=[(0,acM c l),(1,.slice CA cs.length cc),(2,.int .i64 d),(3,.int .i64 w)]) (by kernel_rfl) ?_
 refine aag (aaa ?_)
 refine rtm (abX (.tmp aaf) (us:=(cfL c l)) rfl) ?_
 rintro b1
 refine rtn (aab .const).q ?_
 refine rtn (aab .const).q ?_
 refine aah (aad ?_)
 refine aag (aag (aaa ?_))
 refine rtn (aaB (o:=0) (i:=0) (k:=11) (us:=(cfL c l)) (.tmp aaC) aaf (rfl) (by kernel_rfl) rfl rfl) ?_
 refine rtn (aac (.tmp acU)).q ?_
 refine rtn (aaw (by kernel_rfl) (.cons (.tmp aap) (.cons (.tmp aaf) .nil)) (afz c l CA cc cs hS hcw hc _)) ?_
 refine rtn (ap7 (.tmp aaf)).q ?_
 refine rtn (aac (.tmp aaf)).q ?_
 refine abm aaR aaR (fun h2 =>?_) (fun h2 =>?_)
 ·refine rtk aaf ?_
  refine rtk aap ?_
  refine rtn (aat (b:=true) (.tmp aaC) .const).q ?_
  refine rtn (aac (.tmp aaf)).q ?_
  refine rtk aaf ?_
  refine rtk aap ?_
  refine rtk aaC ?_
  refine rtk aa1 ?_
  refine rtn (aat (b:=true) (.tmp abk) .const).q ?_
  refine aah (aad ?_)
  refine acz (.tmp aaf) ?_
  refine aag (aaa ?_)
  refine aa5 (aab .const).q aae (aaj ajn (by kernel_rfl)) ?_
  refine aa5 (aab .const).q aae (aaj ajn (by kernel_rfl)) ?_
  refine aah (aad ?_)
  refine aaz (aao ?_)
  exact aaN rfl (.cons aap (.cons aaf .nil)) (by rfl) Ent.drop
 ·refine rts (aac (.tmp acT)).q aaf ?_
  refine rts (abE (.tmp aaf) .const).q aap ?_
  refine rtn (aat (b:=false) (.tmp aaC) (.tmp aaf)).q ?_
  refine rtn (aac (.tmp aaf)).q ?_
  refine abm aaR aaR (fun h3 =>?_) (fun h3 =>?_)
  ·refine rtk aaf ?_
   refine rtk aap ?_
   refine rtk aaC ?_
   refine rtk aa1 ?_
   refine rtn (aat (b:=true) (.tmp abk) .const).q ?_
   refine aah (aad ?_)
   refine acz (.tmp aaf) ?_
   refine aag (aaa ?_)
   refine aa5 (aab .const).q aae (aaj ajn (by kernel_rfl)) ?_
   refine aa5 (aab .const).q aae (aaj ajn (by kernel_rfl)) ?_
   refine aah (aad ?_)
   refine aaz (aao ?_)
   exact aaN rfl (.cons aap (.cons aaf .nil)) (by rfl) Ent.drop
  ·refine rts (aac (.tmp adP)).q aaf ?_
   refine rts (aan (k:=0) (o':=0) (.tmp aeg) (by kernel_rfl) (by rfl)).q aap ?_
   refine rts (aax (o:=0) (i:=0) (.tmp aaf) aaf (rfl) rfl (by kernel_rfl)) aaC ?_
   refine rts (acr (.tmp aaC) (.tmp aaf)).q aa1 ?_
   refine rtn (aat (b:=false) (.tmp abk) (.tmp aaf)).q ?_
   refine aah (aad ?_)
   refine abT (.tmp aaf) (fun h4 =>?_) (fun h4 =>?_)
   ·refine aag (aaa ?_)
    refine aa5 (aab .const).q aae (aaj ajn (by kernel_rfl)) ?_
    refine aa5 (aab .const).q aae (aaj ajn (by kernel_rfl)) ?_
    refine aah (aad ?_)
    refine aaz (aao ?_)
    exact aaN rfl (.cons aap (.cons aaf .nil)) (by rfl) Ent.drop
   ·exact absurd ⟨by omega,by omega,by omega,by omega⟩ hb
def aAV (c:Cfg) (cs:List Int) (i v:Nat):Int:=if v<i∧0≤(abw c cs (v:Int)).2 then ((2 ^ (abw c cs (v:Int)).2.toNat:Nat):Int) else 0
def bmV (c:Cfg) (cs:List Int) (i:Nat):List Int:=(List.range c.workers.toNat).map (aAV c cs i)
theorem ahG {c:Cfg} {cs:List Int} {i:Nat}:(bmV c cs i).length=c.workers.toNat:=by simp [bmV]
theorem aFI {c:Cfg} {cs:List Int}:bmV c cs 0=List.replicate c.workers.toNat 0:=by
 apply List.ext_getElem?
 intro j
 unfold bmV
 rw [List.getElem?_map,List.getElem?_replicate]
 by_cases hj:j<c.workers.toNat
 ·rw [List.getElem?_range hj,if_pos hj]; simp [aAV]
 ·rw [List.getElem?_eq_none (by simp; omega),if_neg hj]; rfl
theorem aEn {c:Cfg} {cs:List Int} {i:Nat} (h:¬ 0≤(abw c cs (i:Int)).2):bmV c cs i=bmV c cs (i+1):=by
 unfold bmV
 refine List.map_congr_left fun v _ =>?_
 unfold aAV
 by_cases hv:v=i
 ·subst hv; rw [if_neg (by omega),if_neg (by omega)]
 ·by_cases h1:v<i∧0≤(abw c cs (v:Int)).2
  ·rw [if_pos h1,if_pos ⟨by omega,h1.2⟩]
  ·rw [if_neg h1,if_neg (by omega)]
theorem aCI {c:Cfg} {cs:List Int} {i:Nat} (hi:i<c.workers.toNat) (h:0≤(abw c cs (i:Int)).2):(bmV c cs i).set i ((2 ^ (abw c cs (i:Int)).2.toNat:Nat):Int)=bmV c cs (i+1):=by
 apply List.ext_getElem?
 intro j
 rw [List.getElem?_set]
 by_cases hj:i=j
 ·subst hj
  rw [if_pos rfl,ahG,if_pos hi]
  unfold bmV
  rw [List.getElem?_map,List.getElem?_range hi]
  simp only [Option.map_some,aAV]; rw [if_pos ⟨by omega,h⟩]
 ·rw [if_neg hj]
  unfold bmV
  rw [List.getElem?_map,List.getElem?_map]
  by_cases hr:j<c.workers.toNat
  ·rw [List.getElem?_range hr]
   simp only [Option.map_some,aAV]
   congr 1
   by_cases h1:j<i∧0≤(abw c cs (j:Int)).2
   ·rw [if_pos h1,if_pos ⟨by omega,h1.2⟩]
   ·rw [if_neg h1,if_neg (by omega)]
  ·rw [List.getElem?_eq_none (by simp; omega)]; rfl
theorem azv (k:Nat):akR ((2 ^ k:Nat):Int)=k+1:=by
 unfold akR; rw [Int.toNat_natCast,aEo]; omega
theorem aEm {c:Cfg} {cs:List Int} (hl:1≤c.levels) {v:Int} (h:0≤v∧v<c.workers):akR (gi (bmV c cs c.workers.toNat) v.toNat)-1=(abw c cs v).2:=by
 have hg:gi (bmV c cs c.workers.toNat) v.toNat=aAV c cs c.workers.toNat v.toNat:=by
  unfold gi bmV
  simp [List.getD_eq_getElem?_getD,show v.toNat<c.workers.toNat by omega]
 rw [hg]
 unfold aAV
 rw [show ((v.toNat:Nat):Int)=v by omega]
 by_cases hb:0≤(abw c cs v).2
 ·rw [if_pos ⟨by omega,hb⟩,azv]; omega
 ·rw [if_neg (by omega),(ami hl hb).2]
  simp [akR,bl]
theorem atC {c:Cfg} {cs:List Int} (hw:1≤c.workers) (hl:1≤c.levels) {d w:Int}:∀ i,aeR (bmV c cs c.workers.toNat) w d i=aaJ c cs d w i
 | 0 =>rfl
 | i+1 =>by
  have hlen:((bmV c cs c.workers.toNat).length:Int)=c.workers:=by rw [ahG]; omega
  have hr:=al8 (d:=d) (n:=c.workers) hw
  rw [aeR,aaJ,atC hw hl i,hlen]
  rw [aEm hl ⟨Int.emod_nonneg _ (by omega),Int.emod_lt_of_pos _ (by omega)⟩]
theorem aFH {c:Cfg} {cs:List Int} (hl:1≤c.levels∧c.levels≤64) (i:Nat):CWf (bmV c cs i):=fun j =>by
 unfold gi bmV
 rw [List.getD_eq_getElem?_getD,List.getElem?_map]
 by_cases hj:j<c.workers.toNat
 ·rw [List.getElem?_range hj]
  simp only [Option.map_some,Option.getD_some,aAV]
  split
  ·rename_i h
   have hb:=akc c cs (j:Int) hl
   have:(2:Nat) ^ (abw c cs (j:Int)).2.toNat≤2 ^ 63:=Nat.pow_le_pow_right (by omega) (by omega)
   exact ⟨Int.natCast_nonneg _,Int.le_trans (Int.ofNat_le.2 this) (by decide)⟩
  ·omega
 ·rw [List.getElem?_eq_none (by simp; omega)]; simp
theorem ax2 (v:Int) (h0:0≤v) (h1:v≤63) (B:Nat) (W:World) (L:List aak):adV Tryz.prog 121 #[.int .i64 v] B W L (.int .u64 ((2 ^ v.toNat:Nat):Int)):=by
 have h:=aAc v.toNat (by omega) B W L
 rwa [show ((v.toNat:Nat):Int)=v by omega] at h
theorem axT (A:Option Addr) (cap n:Nat) (bs:List Int) (hn:bs.length=n) (sf st:Int) (hwf:CWf bs) (hlen:bs.length≤16) {B:Nat} {W:World} (hS:Sl afJ 1 W B A bs) (L:List aak):adV Tryz.prog 122 #[.slice A n cap,.int .i64 sf,.int .i64 st] B W L (.tuple #[.int .i64 (aeR bs sf st n).1,.int .i64 (aeR bs sf st n).2]):=by
 subst hn; exact ash A cap bs sf st hwf hlen hS L
def alh (c:Cfg) (cs:List Int) (d w:Int):Option Int:=if (aaJ c cs d w c.workers.toNat).1<0 then none else some (stT c cs d w c.workers.toNat)
theorem ayP {c:Cfg} {cs:List Int} {b:Nat} (hw:c.workers≤16) (h:Hp) (p:pts b 0 (List.replicate c.workers.toNat (Value.int .u64 0)) h):abA (some ⟨b,0,none⟩) c.workers.toNat c.workers.toNat 1 ((bmV c cs 0).map (Value.int .u64)) h :=
 ad2 (by rw [List.length_map,ahG]; omega) (by unfold maxLen; omega) h (by rw [aFI]; simpa using p)
theorem Ent.drop2 {A X:aak} {L:List aak}:Ent (A::X::L) (A::L):=Ent.cons (fun _ h =>h) Ent.drop
theorem Ent.swap2 {A X:aak} {L:List aak}:Ent (A::X::L) (X::A::L):=Ent.perm (List.Perm.swap ..)
set_option maxRecDepth 100000 in
theorem aq3 (c:Cfg) (l:CfgAt) (CA:Option Addr) (cc:Nat) (cs:List Int) (hn:CNums c) (hl:(cs.length:Int)=aaQ c) (w d:Int) {B:Nat} {W:World} (hS:Sl afJ 1 W B CA cs) (hcw:CWf cs) (L:List aak):adV Tryz.prog 75 #[.agg (pcL c l CA cc cs).toArray,.int .i64 w,.int .i64 d] B W L (.tuple #[.int .i64 ((alh c cs d w).getD 0),.bool (alh c cs d w).isSome]):=by
 have hd:=hn.d
 have hlv:=hn.l
 have hww:=hn.w
 have htt:=hn.t
 refine aay Tryz.func75 rfl (m:=57) rfl (Nat.le_of_ble_eq_true rfl) (R:=[(0,.agg (pcL c l CA cc cs).toArray),(1,.int .i64 w),(2,.int .i64 d)]) (by kernel_rfl) ?_
 refine aag (aaa ?_)
 refine rtm (abX (.tmp aaf) (us:=(pcL c l CA cc cs)) rfl) ?_
 rintro b1
 refine rtn (aab .const).q ?_
 refine rtn (aab .const).q ?_
 refine aah (aad ?_)
 refine aag (aaa ?_)
 refine rtn (aan (k:=0) (o':=0) (.tmp aaC) (by kernel_rfl) (by rfl)).q ?_
 refine rtn (aan (k:=0) (o':=0) (.tmp aaf) (by kernel_rfl) (by rfl)).q ?_
 refine rtn (aax (o:=0) (i:=0) (.tmp aaf) aaf (rfl) rfl (by kernel_rfl)) ?_
 refine rtm (awy (E:=38) (z:=.int .u64 0) (by_:=8) (.tmp aaf) (.tmp aaf) Tryz.underlying23 (adF (by kernel_rfl)) rfl (by omega) (by omega) (by decide)) ?_
 rintro b2
 refine rtn (aab (.tmp aaf)).q ?_
 refine aah (aad ?_)
 refine aag (aag (aaa ?_))
 refine rtn (aac (.tmp aaf)).q ?_
 refine rtn (adq (.tmp aaf) Tryz.underlying23).q ?_
 refine rtn (aac .const).q ?_
 refine aah (aad ?_)
 refine aaU ?_
 refine amd (Ent.cons (ayP (cs:=cs) (by omega)) Ent.refl) ?_
 refine aey (X:=Nat) (fun i =>c.workers.toNat-i) (fun i =>i≤c.workers.toNat) (fun i =>[(22,.int .i64 ((i:Int))),(21,.int .i64 ((((c.workers).toNat:Nat):Int))),(8,.slice (some ⟨b2,0,none⟩) c.workers.toNat c.workers.toNat),(7,.bool false),(6,.int .i64 0),(3,.pointer (some ⟨b1,0,none⟩)),(1,.int .i64 w),(2,.int .i64 d)]) (fun i =>abA ((some ⟨b2,0,none⟩)) c.workers.toNat c.workers.toNat 1 ((bmV c cs i).map (Value.int .u64))::pts b1 0 (pcL c l CA cc cs)::L) 0 (by omega) (.cons aaf (congrArg (Value.int .i64) (by first | rfl | omega | (simp; omega) | simp)) (.cons aap rfl (.cons aa1 rfl (.cons adK rfl (.cons aff rfl (.cons acP rfl (.cons aeg rfl (.cons ad3 rfl .nil)))))))) (Ent.refl) (fun i hi3 =>?_)
 have hi0:=hi3
 have hbml:=ahG (c:=c) (cs:=cs) (i:=i)
 refine aag (aaa ?_)
 refine rtn (abE (.tmp aaf) (.tmp aap)).q ?_
 refine aah (aad (aag ?_))
 refine abT (.tmp aaf) (fun h4 =>?_) (fun h4 =>?_)
 ·refine aaD ?_
  refine aad (aag ?_)
  refine aaU ?_
  refine aag (aaa ?_)
  refine rtn (aac (.tmp aap)).q ?_
  refine rtn (aab (.tmp aaf)).q ?_
  refine aah (aad ?_)
  refine aag (aaa ?_)
  refine rtn (aaB (o:=0) (i:=0) (k:=23) (us:=(pcL c l CA cc cs)) (.tmp adK) aap (rfl) (by kernel_rfl) rfl rfl) ?_
  refine rtn (aac (.tmp aap)).q ?_
  have hbv:=akc c cs ((i:Int)) hlv
  have hbvl:=ajH c cs ((i:Int)) hd.2
  refine rtm (adj (by kernel_rfl) (.cons (.tmp aap) (.cons (.tmp aaf) .nil)) (amh c l CA cc cs hn hl _ (by omega) hS hcw) .nil) ?_
  rintro ⟨A5,c5⟩
  refine rtn (aac (.tmp aaf)).q ?_
  refine rtn (aaA (.tmp aaf) rfl).q ?_
  refine rtn (aaA (.tmp aap) rfl).q ?_
  refine rtn (aab (.tmp aap)).q ?_
  refine rtn (aab (.tmp aap)).q ?_
  refine aah (aad ?_)
  refine aag (aaa ?_)
  refine rtn (aac (.tmp aaf)).q ?_
  refine rtn (acr (.tmp aaf) .const).q ?_
  refine aah (aad ?_)
  refine abT (.tmp aaf) (fun h6 =>?_) (fun h6 =>?_)
  ·refine aaa ?_
   refine rtn (aac (.tmp adP)).q ?_
   refine rtn (aac (.tmp acT)).q ?_
   refine rtn (aac (.tmp abk)).q ?_
   refine rtn (aaw (by kernel_rfl) (.cons (.tmp aaf) .nil) (ax2 _ (by omega) (by omega) B W _)) ?_
   refine rtn (acj (i:=i) (.tmp aa1) (.tmp aaC) aap (by omega) (by omega) (by omega) (by kernel_rfl) (Nat.mul_one _)) ?_
   refine aeM (Ent.swap2:Ent _ (abA ((some ⟨b2,0,none⟩)) c.workers.toNat c.workers.toNat 1 ((bmV c cs i).map (Value.int .u64))::_)) ?_
   refine ahi (alJ (i:=i) (.tmp aaf) (.tmp aap) aaR (by simp [afs,acB]; first | omega | skip) (by kernel_rfl) rfl) aae (fun _ =>aa3) (fun _ =>?_)
   refine aeM ar6 ?_
   refine aah ?_
   refine aa7 ?_
   refine aad (aaa ?_)
   refine rtn (aaM (.tmp aeP) .const (w64 (by omega) (by omega))).q ?_
   refine aa5 (aac (.tmp aaf)).q aae (aaj agY (by kernel_rfl)) ?_
   refine aah ?_
   exact abW (n:=57) ((i+1)) (by omega) (by omega) (.cons aaf (congrArg (Value.int .i64) (by first | rfl | omega | (simp; omega) | simp)) (.cons (aar aaf) rfl (.cons (aar aap) rfl (.cons (aar aaC) rfl (.cons (aar aa1) rfl (.cons (aar abk) rfl (.cons (aar acU) rfl (.cons (aar adz) rfl .nil)))))))) ((Ent.trans (acQ (aCI (by omega) (by omega)) rfl Ent.refl) (Ent.drop2)))
  ·refine aaD ?_
   refine aa7 ?_
   refine aad (aaa ?_)
   refine rtn (aaM (.tmp ad3) .const (w64 (by omega) (by omega))).q ?_
   refine aa5 (aac (.tmp aaf)).q aae (aaj ank (by kernel_rfl)) ?_
   refine aah ?_
   exact abW (n:=57) ((i+1)) (by omega) (by omega) (.cons aaf (congrArg (Value.int .i64) (by first | rfl | omega | (simp; omega) | simp)) (.cons adP rfl (.cons aem rfl (.cons ad9 rfl (.cons aeP rfl (.cons aev rfl (.cons (aar aaf) rfl (.cons (aar aap) rfl .nil)))))))) ((Ent.trans Ent.drop (acQ (aEn (by omega)) rfl Ent.refl)))
 ·refine aco ?_
  refine aaq ?_
  refine aaq ?_
  refine aaK ?_
  refine aad (aag (aaa ?_))
  refine rtn (aac (.tmp aa1)).q ?_
  refine rtn (aac (.tmp adK)).q ?_
  refine rtn (aac (.tmp acP)).q ?_
  obtain rfl:i=c.workers.toNat:=by omega
  have hch:=atC (c:=c) (cs:=cs) hww.1 hlv.1 (d:=d) (w:=w) c.workers.toNat
  refine rtn (v:=.tuple #[.int .i64 ((aaJ c cs d w c.workers.toNat).1),.int .i64 ((aaJ c cs d w c.workers.toNat).2)]) (aaw (by kernel_rfl) (.cons (.tmp aaC) (.cons (.tmp aap) (.cons (.tmp aaf) .nil))) (arB fun w0 hw0 =>by rw [← hch]; exact axT _ _ _ _ ahG _ _ (aFH hlv _) (by rw [ahG]; omega) (avw (fun _ =>rfl) aaf hw0.2.2 ahG (by rw [ahG]; omega)) _)) ?_
  refine rtn (aac (.tmp aaf)).q ?_
  refine rtn (aaA (.tmp aaf) rfl).q ?_
  refine rtn (aaA (.tmp aap) rfl).q ?_
  refine rtn (aab (.tmp aap)).q ?_
  refine rtn (aab (.tmp aap)).q ?_
  refine aah (aad ?_)
  refine aag (aag (aaa ?_))
  refine rtn (aac (.tmp aap)).q ?_
  refine rtn (abE (.tmp aaf) .const).q ?_
  refine aah (aad ?_)
  refine abT (.tmp aaf) (fun h7 =>?_) (fun h7 =>?_)
  ·refine aag (aaa ?_)
   refine aa5 (aab .const).q aae (aaj aky (by kernel_rfl)) ?_
   refine aa5 (aab .const).q aae (aaj aky (by kernel_rfl)) ?_
   refine aah (aad ?_)
   refine aaz (aao ?_)
   exact aaN rfl (.cons aap (.cons aaf .nil)) (by simp only [abN,alh]; rw [if_pos (by omega)]; rfl) (Ent.drop.trans Ent.drop)
  ·refine aaD ?_
   refine aad (aag (aaa ?_))
   refine rtn (aaB (o:=0) (i:=0) (k:=23) (us:=(pcL c l CA cc cs)) (.tmp ad9) aap (rfl) (by kernel_rfl) rfl rfl) ?_
   refine rtn (aac (.tmp abk)).q ?_
   have hsa:=(akU (cs:=cs) (d:=d) (w:=w) hww.1 hlv.1 c.workers.toNat).resolve_left (by omega)
   have hbs:=ahH (c:=c) (cs:=cs) (w:=((aaJ c cs d w c.workers.toNat).1)) hlv.1 (by omega)
   have hbv:=akc c cs ((aaJ c cs d w c.workers.toNat).1) hlv
   have hbvl:=ajH c cs ((aaJ c cs d w c.workers.toNat).1) hd.2
   refine rtm (adj (by kernel_rfl) (.cons (.tmp aap) (.cons (.tmp aaf) .nil)) (amh c l CA cc cs hn hl _ (by omega) hS hcw) .nil) ?_
   rintro ⟨A8,c8⟩
   refine rtn (aac (.tmp aaf)).q ?_
   refine rtn (aaA (.tmp aaf) rfl).q ?_
   refine rtn (aaA (.tmp aap) rfl).q ?_
   refine rtn (aab (.tmp aap)).q ?_
   refine rtn (aab (.tmp aap)).q ?_
   refine aah (aad ?_)
   refine aag (aaa ?_)
   refine rtn (aac (.tmp aap)).q ?_
   refine rtn (acj (i:=0) (.tmp aaf) .const aaf (by omega) (by omega) (by omega) (by kernel_rfl) (Nat.mul_one _)) ?_
   refine rtn (adk (i:=0) (.tmp aaf) aaf (agb (by first | omega | (simp; omega))) (by kernel_rfl)) ?_
   refine aa5 (aab (.tmp aaf)).q aae (aaj (aa0 ael) (by kernel_rfl)) ?_
   refine aa5 (aab .const).q aae (aaj (aa0 ael) (by kernel_rfl)) ?_
   refine aah (aad (aaz ?_))
   exact aaN rfl (.cons aap (.cons aaf .nil)) (by simp only [abN,alh,stT]; rw [if_neg (by omega),if_neg (by omega)]; rfl) (Ent.drop.trans (Ent.drop.trans Ent.drop))
theorem anz {c:Cfg} {cs:List Int} {w v:Int} (h0:abB c=0) (hl:(cs.length:Int)=aaQ c) (hw:0≤w∧w<c.workers) (hv:0≤v∧v<c.levels):abz c cs w v=ae0 c cs w v:=by
 unfold abz; rw [if_neg (by rw [aj5 h0 hl hw]; simp; omega)]
theorem agK {c:Cfg} {cs:List Int} {w v:Int} (h:¬ (abB c=0∧(cs.length:Int)=aaQ c∧(0≤w∧w<c.workers)∧(0≤v∧v<c.levels))):abz c cs w v=[]:=by
 unfold abz
 refine if_pos ?_
 cases hg:ajw c cs w with
 | false =>exact .inl rfl
 | true =>
  have h1:=anv hg
  exact .inr (by omega)
set_option maxRecDepth 100000 in
theorem amx (c:Cfg) (l:CfgAt) (CA:Option Addr) (cc:Nat) (cs:List Int) (w v:Int) (hb:¬ (abB c=0∧(cs.length:Int)=aaQ c∧(0≤w∧w<c.workers)∧(0≤v∧v<c.levels))) {B:Nat} {W:World} (hS:Sl afJ 1 W B CA cs) (hcw:CWf cs) (hc:acR W B c l):Fn_ Tryz.prog 37 #[acM c l,.slice CA cs.length cc,.int .i64 w,.int .i64 v] B W [] (X:=Option Addr×Nat) (fun p =>.slice p.1 0 p.2) (fun p =>[abA p.1 0 p.2 1 (([]:List Int).map (Value.int .i64))]):=by
 refine acV Tryz.func37 rfl (m:=83) rfl (Nat.le_of_ble_eq_true rfl) (R:=[(0,acM c l),(1,.slice CA cs.length cc),(2,.int .i64 w),(3,.int .i64 v)]) (by kernel_rfl) (fun F =>?_)
 refine aag (aaa ?_)
 refine rtm (abX (.tmp aaf) (us:=(cfL c l)) rfl) ?_
 rintro b1
 refine rtn (aab .const).q ?_
 refine aah (aad ?_)
 refine aag (aag (aaa ?_))
 refine rtn (aaB (o:=0) (i:=0) (k:=11) (us:=(cfL c l)) (.tmp aap) aaf (rfl) (by kernel_rfl) rfl rfl) ?_
 refine rtn (aac (.tmp abk)).q ?_
 refine rtn (aaw (by kernel_rfl) (.cons (.tmp aap) (.cons (.tmp aaf) .nil)) (afz c l CA cc cs hS hcw hc _)) ?_
 refine rtn (ap7 (.tmp aaf)).q ?_
 refine rtn (aac (.tmp aaf)).q ?_
 refine abm aaR aaR (fun h2 =>?_) (fun h2 =>?_)
 ·refine rtk aaf ?_
  refine rtk aap ?_
  refine rtn (aat (b:=true) (.tmp aaC) .const).q ?_
  refine rtn (aac (.tmp aaf)).q ?_
  refine rtk aaf ?_
  refine rtk aap ?_
  refine rtk aaC ?_
  refine rtk aa1 ?_
  refine rtn (aat (b:=true) (.tmp abk) .const).q ?_
  refine rtn (aac (.tmp aaf)).q ?_
  refine rtk aaf ?_
  refine rtk aap ?_
  refine rtn (aat (b:=true) (.tmp aaC) .const).q ?_
  refine rtn (aac (.tmp aaf)).q ?_
  refine rtk aaf ?_
  refine rtk aap ?_
  refine rtk aaC ?_
  refine rtk aa1 ?_
  refine rtn (aat (b:=true) (.tmp abk) .const).q ?_
  refine aah (aad ?_)
  refine acz (.tmp aaf) ?_
  refine aag (aaa ?_)
  refine aa5 (aab .const).q aae (aaj (aa0 ajm) (by kernel_rfl)) ?_
  refine aah (aad ?_)
  refine aaz (aao ?_)
  exact aeZ (none,0) rfl (.cons aaf .nil) rfl (adb rfl rfl Ent.drop)
 ·refine rts (aac (.tmp aff)).q aaf ?_
  refine rts (abE (.tmp aaf) .const).q aap ?_
  refine rtn (aat (b:=false) (.tmp aaC) (.tmp aaf)).q ?_
  refine rtn (aac (.tmp aaf)).q ?_
  refine abm aaR aaR (fun h3 =>?_) (fun h3 =>?_)
  ·refine rtk aaf ?_
   refine rtk aap ?_
   refine rtk aaC ?_
   refine rtk aa1 ?_
   refine rtn (aat (b:=true) (.tmp abk) .const).q ?_
   refine rtn (aac (.tmp aaf)).q ?_
   refine rtk aaf ?_
   refine rtk aap ?_
   refine rtn (aat (b:=true) (.tmp aaC) .const).q ?_
   refine rtn (aac (.tmp aaf)).q ?_
   refine rtk aaf ?_
   refine rtk aap ?_
   refine rtk aaC ?_
   refine rtk aa1 ?_
   refine rtn (aat (b:=true) (.tmp abk) .const).q ?_
   refine aah (aad ?_)
   refine acz (.tmp aaf) ?_
   refine aag (aaa ?_)
   refine aa5 (aab .const).q aae (aaj (aa0 ajm) (by kernel_rfl)) ?_
   refine aah (aad ?_)
   refine aaz (aao ?_)
   exact aeZ (none,0) rfl (.cons aaf .nil) rfl (adb rfl rfl Ent.drop)
  ·refine rts (aac (.tmp ad3)).q aaf ?_
   refine rts (aan (k:=0) (o':=0) (.tmp acT) (by kernel_rfl) (by rfl)).q aap ?_
   refine rts (aax (o:=0) (i:=0) (.tmp aaf) aaf (rfl) rfl (by kernel_rfl)) aaC ?_
   refine rts (acr (.tmp aaC) (.tmp aaf)).q aa1 ?_
   refine rtn (aat (b:=false) (.tmp abk) (.tmp aaf)).q ?_
   refine rtn (aac (.tmp aaf)).q ?_
   refine abm aaR aaR (fun h4 =>?_) (fun h4 =>?_)
   ·refine rtk aaf ?_
    refine rtk aap ?_
    refine rtn (aat (b:=true) (.tmp aaC) .const).q ?_
    refine rtn (aac (.tmp aaf)).q ?_
    refine rtk aaf ?_
    refine rtk aap ?_
    refine rtk aaC ?_
    refine rtk aa1 ?_
    refine rtn (aat (b:=true) (.tmp abk) .const).q ?_
    refine aah (aad ?_)
    refine acz (.tmp aaf) ?_
    refine aag (aaa ?_)
    refine aa5 (aab .const).q aae (aaj (aa0 ajm) (by kernel_rfl)) ?_
    refine aah (aad ?_)
    refine aaz (aao ?_)
    exact aeZ (none,0) rfl (.cons aaf .nil) rfl (adb rfl rfl Ent.drop)
   ·refine rts (aac (.tmp (aar aaf))).q aaf ?_
    refine rts (abE (.tmp aaf) .const).q aap ?_
    refine rtn (aat (b:=false) (.tmp aaC) (.tmp aaf)).q ?_
    refine rtn (aac (.tmp aaf)).q ?_
    refine abm aaR aaR (fun h5 =>?_) (fun h5 =>?_)
    ·refine rtk aaf ?_
     refine rtk aap ?_
     refine rtk aaC ?_
     refine rtk aa1 ?_
     refine rtn (aat (b:=true) (.tmp abk) .const).q ?_
     refine aah (aad ?_)
     refine acz (.tmp aaf) ?_
     refine aag (aaa ?_)
     refine aa5 (aab .const).q aae (aaj (aa0 ajm) (by kernel_rfl)) ?_
     refine aah (aad ?_)
     refine aaz (aao ?_)
     exact aeZ (none,0) rfl (.cons aaf .nil) rfl (adb rfl rfl Ent.drop)
    ·refine rts (aac (.tmp (aar abk))).q aaf ?_
     refine rts (aan (k:=1) (o':=1) (.tmp (aar aap)) (by kernel_rfl) (by rfl)).q aap ?_
     refine rts (aax (o:=0) (i:=1) (.tmp aaf) aaf (rfl) rfl (by kernel_rfl)) aaC ?_
     refine rts (acr (.tmp aaC) (.tmp aaf)).q aa1 ?_
     refine rtn (aat (b:=false) (.tmp abk) (.tmp aaf)).q ?_
     refine aah (aad ?_)
     refine abT (.tmp aaf) (fun h6 =>?_) (fun h6 =>?_)
     ·refine aag (aaa ?_)
      refine aa5 (aab .const).q aae (aaj (aa0 ajm) (by kernel_rfl)) ?_
      refine aah (aad ?_)
      refine aaz (aao ?_)
      exact aeZ (none,0) rfl (.cons aaf .nil) rfl (adb rfl rfl Ent.drop)
     ·exact absurd ⟨by omega,by omega,by omega,by omega⟩ hb
theorem aik (c:Cfg) (l:CfgAt) (CA:Option Addr) (cc:Nat) (cs:List Int) (w v:Int) {B:Nat} {W:World} (hS:Sl afJ 1 W B CA cs) (hcw:CWf cs) (hc:acR W B c l):Fn_ Tryz.prog 37 #[acM c l,.slice CA cs.length cc,.int .i64 w,.int .i64 v] B W [] (X:=Option Addr×Nat) (fun p =>.slice p.1 (abz c cs w v).length p.2) (fun p =>[abA p.1 (abz c cs w v).length p.2 1 ((abz c cs w v).map (Value.int .i64))]):=by
 by_cases h:abB c=0∧(cs.length:Int)=aaQ c∧(0≤w∧w<c.workers)∧(0≤v∧v<c.levels)
 ·rw [anz h.1 h.2.1 h.2.2.1 h.2.2.2]
  exact ai1 c l CA cc cs h.1 (aoX (ac9 h.1)) h.2.1 w v h.2.2.1 h.2.2.2 hS hcw hc
 ·rw [agK h]
  exact amx c l CA cc cs w v h hS hcw hc
set_option maxRecDepth 100000 in
theorem anN (c:Cfg) (l:CfgAt) (CA:Option Addr) (cc:Nat) (cs:List Int) (hv0:abB c=0) (hn:CNums c) (hl:(cs.length:Int)=aaQ c) (w v:Int) (hw:0≤w∧w<c.workers) (hv:0≤v∧v<c.levels) {B:Nat} {W:World} (hS:Sl afJ 1 W B CA cs) (hcw:CWf cs) (hc:acR W B c l):Fn_ Tryz.prog 35 #[acM c l,.slice CA cs.length cc,.int .i64 w,.int .i64 v] B W [] (X:=Option Addr×Nat) (fun p =>.slice p.1 (ae0 c cs w v).length p.2) (fun p =>[abA p.1 (ae0 c cs w v).length p.2 1 ((ae0 c cs w v).map (Value.int .i64))]):=by
 refine acV Tryz.func35 rfl (m:=34) rfl (Nat.le_of_ble_eq_true rfl) (R:=[(0,acM c l),(1,.slice CA cs.length cc),(2,.int .i64 w),(3,.int .i64 v)]) (by kernel_rfl) (fun F =>?_)
 refine aag (aaa ?_)
 refine rtm (abX (.tmp aaf) (us:=(cfL c l)) rfl) ?_
 rintro b1
 refine rtn (aab .const).q ?_
 refine aah (aad ?_)
 refine aag (aaa ?_)
 refine rtn (aaB (o:=0) (i:=0) (k:=11) (us:=(cfL c l)) (.tmp aap) aaf (rfl) (by kernel_rfl) rfl rfl) ?_
 refine rtn (aac (.tmp abk)).q ?_
 refine rtn (aac (.tmp adz)).q ?_
 refine rtn (aaw (by kernel_rfl) (.cons (.tmp aaC) (.cons (.tmp aap) (.cons (.tmp aaf) .nil))) (aiE c l CA cc cs _ hv0 hn hl (by omega) (by omega) hS hcw hc _)) ?_
 refine rtn (aac (.tmp aaf)).q ?_
 refine rtn (aaA (.tmp aaf) rfl).q ?_
 refine rtn (aaA (.tmp aap) rfl).q ?_
 refine rtm (acd (v:=.agg zeL.toArray) (us:=zeL) (by kernel_rfl) rfl) ?_
 rintro b2
 refine ahi (abg (o:=0) (i:=0) (k:=23) (us:=(pcL c l CA cc cs)) (ws:=(pcL c l CA cc cs)) (.tmp aaf) (.tmp aaC) aaR (rfl) (by kernel_rfl) rfl (by decide) rfl rfl (by simp) rfl) aae (fun _ =>aa3) (fun _ =>?_)
 refine rtn (aab (.tmp aap)).q ?_
 refine aah (aad ?_)
 refine aag (aag (aaa ?_))
 refine rtn (aac (.tmp aaf)).q ?_
 refine rtn (aef (.tmp aaf)).q ?_
 refine rtn (aac (.tmp aaf)).q ?_
 refine rts (aac (.tmp ad9)).q aaf ?_
 refine rts (abE (.tmp aaf) .const).q aap ?_
 refine rtn (aat (b:=false) (.tmp aaC) (.tmp aaf)).q ?_
 refine rtn (aac (.tmp aaf)).q ?_
 refine abm aaR aaR (fun h3 =>?_) (fun h3 =>?_)
 ·exact absurd h3 (by omega)
 ·refine rts (aac (.tmp (aar aap))).q aaf ?_
  refine rts (aan (k:=1) (o':=1) (.tmp aeP) (by kernel_rfl) (by rfl)).q aap ?_
  refine rts (aax (o:=0) (i:=1) (.tmp aaf) aap (rfl) rfl (by kernel_rfl)) aaC ?_
  refine rts (acr (.tmp aaC) (.tmp aaf)).q aa1 ?_
  refine rtn (aat (b:=false) (.tmp abk) (.tmp aaf)).q ?_
  refine aah (aad ?_)
  refine abT (.tmp aaf) (fun h4 =>?_) (fun h4 =>?_)
  ·exact absurd h4 (by omega)
  ·refine aaD ?_
   refine aad (aag (aaa ?_))
   refine rtn (aaB (o:=0) (i:=0) (k:=23) (us:=(pcL c l CA cc cs)) (.tmp ad3) aaf (rfl) (by kernel_rfl) rfl rfl) ?_
   refine rtn (aac (.tmp (aar adz))).q ?_
   refine rtn (aac (.tmp (aar adK))).q ?_
   refine rtm (adj (by kernel_rfl) (.cons (.tmp aaC) (.cons (.tmp aap) (.cons (.tmp aaf) .nil))) (akG c l CA cc cs hn hl _ _ (by omega) (by omega) hS hcw) .nil) ?_
   rintro ⟨A5,c5⟩
   refine aa5 (aab (.tmp aaf)).q aae (aaj (aa0 arG) (by kernel_rfl)) ?_
   refine aah (aad (aaz ?_))
   exact aeZ (A5,c5) rfl (.cons aaf .nil) rfl (acQ rfl rfl (Ent.drop.trans Ent.drop))
set_option maxRecDepth 100000 in
theorem amp (c:Cfg) (l:CfgAt) (CA:Option Addr) (cc:Nat) (cs:List Int) (hv0:abB c=0) (hn:CNums c) (hl:(cs.length:Int)=aaQ c) (w v:Int) (hw:0≤w∧w<c.workers) (hb:¬ (0≤v∧v<c.levels)) {B:Nat} {W:World} (hS:Sl afJ 1 W B CA cs) (hcw:CWf cs) (hc:acR W B c l):Fn_ Tryz.prog 35 #[acM c l,.slice CA cs.length cc,.int .i64 w,.int .i64 v] B W [] (X:=Option Addr×Nat) (fun p =>.slice p.1 0 p.2) (fun p =>[abA p.1 0 p.2 1 (([]:List Int).map (Value.int .i64))]):=by
 refine acV Tryz.func35 rfl (m:=34) rfl (Nat.le_of_ble_eq_true rfl) (R:=[(0,acM c l),(1,.slice CA cs.length cc),(2,.int .i64 w),(3,.int .i64 v)]) (by kernel_rfl) (fun F =>?_)
 refine aag (aaa ?_)
 refine rtm (abX (.tmp aaf) (us:=(cfL c l)) rfl) ?_
 rintro b1
 refine rtn (aab .const).q ?_
 refine aah (aad ?_)
 refine aag (aaa ?_)
 refine rtn (aaB (o:=0) (i:=0) (k:=11) (us:=(cfL c l)) (.tmp aap) aaf (rfl) (by kernel_rfl) rfl rfl) ?_
 refine rtn (aac (.tmp abk)).q ?_
 refine rtn (aac (.tmp adz)).q ?_
 refine rtn (aaw (by kernel_rfl) (.cons (.tmp aaC) (.cons (.tmp aap) (.cons (.tmp aaf) .nil))) (aiE c l CA cc cs _ hv0 hn hl (by omega) (by omega) hS hcw hc _)) ?_
 refine rtn (aac (.tmp aaf)).q ?_
 refine rtn (aaA (.tmp aaf) rfl).q ?_
 refine rtn (aaA (.tmp aap) rfl).q ?_
 refine rtm (acd (v:=.agg zeL.toArray) (us:=zeL) (by kernel_rfl) rfl) ?_
 rintro b2
 refine ahi (abg (o:=0) (i:=0) (k:=23) (us:=(pcL c l CA cc cs)) (ws:=(pcL c l CA cc cs)) (.tmp aaf) (.tmp aaC) aaR (rfl) (by kernel_rfl) rfl (by decide) rfl rfl (by simp) rfl) aae (fun _ =>aa3) (fun _ =>?_)
 refine rtn (aab (.tmp aap)).q ?_
 refine aah (aad ?_)
 refine aag (aag (aaa ?_))
 refine rtn (aac (.tmp aaf)).q ?_
 refine rtn (aef (.tmp aaf)).q ?_
 refine rtn (aac (.tmp aaf)).q ?_
 refine rts (aac (.tmp ad9)).q aaf ?_
 refine rts (abE (.tmp aaf) .const).q aap ?_
 refine rtn (aat (b:=false) (.tmp aaC) (.tmp aaf)).q ?_
 refine rtn (aac (.tmp aaf)).q ?_
 refine abm aaR aaR (fun h3 =>?_) (fun h3 =>?_)
 ·refine rtk aaf ?_
  refine rtk aap ?_
  refine rtk aaC ?_
  refine rtk aa1 ?_
  refine rtn (aat (b:=true) (.tmp abk) .const).q ?_
  refine aah (aad ?_)
  refine acz (.tmp aaf) ?_
  refine aag (aaa ?_)
  refine aa5 (aab .const).q aae (aaj (aa0 agv) (by kernel_rfl)) ?_
  refine aah (aad ?_)
  refine aaz (aao ?_)
  exact aeZ (none,0) rfl (.cons aaf .nil) rfl (adb rfl rfl (Ent.drop.trans Ent.drop))
 ·refine rts (aac (.tmp (aar aap))).q aaf ?_
  refine rts (aan (k:=1) (o':=1) (.tmp aeP) (by kernel_rfl) (by rfl)).q aap ?_
  refine rts (aax (o:=0) (i:=1) (.tmp aaf) aap (rfl) rfl (by kernel_rfl)) aaC ?_
  refine rts (acr (.tmp aaC) (.tmp aaf)).q aa1 ?_
  refine rtn (aat (b:=false) (.tmp abk) (.tmp aaf)).q ?_
  refine aah (aad ?_)
  refine abT (.tmp aaf) (fun h4 =>?_) (fun h4 =>?_)
  ·refine aag (aaa ?_)
   refine aa5 (aab .const).q aae (aaj (aa0 agv) (by kernel_rfl)) ?_
   refine aah (aad ?_)
   refine aaz (aao ?_)
   exact aeZ (none,0) rfl (.cons aaf .nil) rfl (adb rfl rfl (Ent.drop.trans Ent.drop))
  ·exact absurd (show 0≤v∧v<c.levels by omega) hb
set_option maxRecDepth 100000 in
theorem amr (c:Cfg) (l:CfgAt) (CA:Option Addr) (cc:Nat) (cs:List Int) (hv0:abB c=0) (w v:Int) (hb:¬ ((cs.length:Int)=aaQ c∧0≤w∧w<c.workers)) {B:Nat} {W:World} (hS:Sl afJ 1 W B CA cs) (hcw:CWf cs) (hc:acR W B c l):Fn_ Tryz.prog 35 #[acM c l,.slice CA cs.length cc,.int .i64 w,.int .i64 v] B W [] (X:=Option Addr×Nat) (fun p =>.slice p.1 0 p.2) (fun p =>[abA p.1 0 p.2 1 (([]:List Int).map (Value.int .i64))]):=by
 refine acV Tryz.func35 rfl (m:=34) rfl (Nat.le_of_ble_eq_true rfl) (R:=[(0,acM c l),(1,.slice CA cs.length cc),(2,.int .i64 w),(3,.int .i64 v)]) (by kernel_rfl) (fun F =>?_)
 refine aag (aaa ?_)
 refine rtm (abX (.tmp aaf) (us:=(cfL c l)) rfl) ?_
 rintro b1
 refine rtn (aab .const).q ?_
 refine aah (aad ?_)
 refine aag (aaa ?_)
 refine rtn (aaB (o:=0) (i:=0) (k:=11) (us:=(cfL c l)) (.tmp aap) aaf (rfl) (by kernel_rfl) rfl rfl) ?_
 refine rtn (aac (.tmp abk)).q ?_
 refine rtn (aac (.tmp adz)).q ?_
 refine rtn (aaw (by kernel_rfl) (.cons (.tmp aaC) (.cons (.tmp aap) (.cons (.tmp aaf) .nil))) (ann c l CA cc cs _ hv0 (aoX (ac9 hv0)) hb hS hcw hc _)) ?_
 refine rtn (aac (.tmp aaf)).q ?_
 refine rtn (aaA (.tmp aaf) rfl).q ?_
 refine rtn (aaA (.tmp aap) rfl).q ?_
 refine rtm (acd (v:=.agg zeL.toArray) (us:=zeL) (by kernel_rfl) rfl) ?_
 rintro b2
 refine ahi (abg (o:=0) (i:=0) (k:=23) (us:=zeL) (ws:=zeL) (.tmp aaf) (.tmp aaC) aaR (rfl) (by kernel_rfl) rfl (by decide) rfl rfl (by simp) rfl) aae (fun _ =>aa3) (fun _ =>?_)
 refine rtn (aab (.tmp aap)).q ?_
 refine aah (aad ?_)
 refine aag (aag (aaa ?_))
 refine rtn (aac (.tmp aaf)).q ?_
 refine rtn (aef (.tmp aaf)).q ?_
 refine rtn (aac (.tmp aaf)).q ?_
 refine rtk aaf ?_
 refine rtk aap ?_
 refine rtn (aat (b:=true) (.tmp aaC) .const).q ?_
 refine rtn (aac (.tmp aaf)).q ?_
 refine rtk aaf ?_
 refine rtk aap ?_
 refine rtk aaC ?_
 refine rtk aa1 ?_
 refine rtn (aat (b:=true) (.tmp abk) .const).q ?_
 refine aah (aad ?_)
 refine acz (.tmp aaf) ?_
 refine aag (aaa ?_)
 refine aa5 (aab .const).q aae (aaj (aa0 agv) (by kernel_rfl)) ?_
 refine aah (aad ?_)
 refine aaz (aao ?_)
 exact aeZ (none,0) rfl (.cons aaf .nil) rfl (adb rfl rfl (Ent.drop.trans Ent.drop))
set_option maxRecDepth 100000 in
theorem amq (c:Cfg) (l:CfgAt) (CA:Option Addr) (cc:Nat) (cs:List Int) (hv0:abB c≠0) (w v:Int) {B:Nat} {W:World} (hS:Sl afJ 1 W B CA cs) (hcw:CWf cs) (hc:acR W B c l):Fn_ Tryz.prog 35 #[acM c l,.slice CA cs.length cc,.int .i64 w,.int .i64 v] B W [] (X:=Option Addr×Nat) (fun p =>.slice p.1 0 p.2) (fun p =>[abA p.1 0 p.2 1 (([]:List Int).map (Value.int .i64))]):=by
 refine acV Tryz.func35 rfl (m:=34) rfl (Nat.le_of_ble_eq_true rfl) (R:=[(0,acM c l),(1,.slice CA cs.length cc),(2,.int .i64 w),(3,.int .i64 v)]) (by kernel_rfl) (fun F =>?_)
 refine aag (aaa ?_)
 refine rtm (abX (.tmp aaf) (us:=(cfL c l)) rfl) ?_
 rintro b1
 refine rtn (aab .const).q ?_
 refine aah (aad ?_)
 refine aag (aaa ?_)
 refine rtn (aaB (o:=0) (i:=0) (k:=11) (us:=(cfL c l)) (.tmp aap) aaf (rfl) (by kernel_rfl) rfl rfl) ?_
 refine rtn (aac (.tmp abk)).q ?_
 refine rtn (aac (.tmp adz)).q ?_
 refine rtn (aaw (by kernel_rfl) (.cons (.tmp aaC) (.cons (.tmp aap) (.cons (.tmp aaf) .nil))) (anm c l CA cc cs _ hv0 hS hcw hc _)) ?_
 refine rtn (aac (.tmp aaf)).q ?_
 refine rtn (aaA (.tmp aaf) rfl).q ?_
 refine rtn (aaA (.tmp aap) rfl).q ?_
 refine rtm (acd (v:=.agg zeL.toArray) (us:=zeL) (by kernel_rfl) rfl) ?_
 rintro b2
 refine ahi (abg (o:=0) (i:=0) (k:=23) (us:=zeL) (ws:=zeL) (.tmp aaf) (.tmp aaC) aaR (rfl) (by kernel_rfl) rfl (by decide) rfl rfl (by simp) rfl) aae (fun _ =>aa3) (fun _ =>?_)
 refine rtn (aab (.tmp aap)).q ?_
 refine aah (aad ?_)
 refine aag (aag (aaa ?_))
 refine rtn (aac (.tmp aaf)).q ?_
 refine rtn (aef (.tmp aaf)).q ?_
 refine rtn (aac (.tmp aaf)).q ?_
 refine rtk aaf ?_
 refine rtk aap ?_
 refine rtn (aat (b:=true) (.tmp aaC) .const).q ?_
 refine rtn (aac (.tmp aaf)).q ?_
 refine rtk aaf ?_
 refine rtk aap ?_
 refine rtk aaC ?_
 refine rtk aa1 ?_
 refine rtn (aat (b:=true) (.tmp abk) .const).q ?_
 refine aah (aad ?_)
 refine acz (.tmp aaf) ?_
 refine aag (aaa ?_)
 refine aa5 (aab .const).q aae (aaj (aa0 agv) (by kernel_rfl)) ?_
 refine aah (aad ?_)
 refine aaz (aao ?_)
 exact aeZ (none,0) rfl (.cons aaf .nil) rfl (adb rfl rfl (Ent.drop.trans Ent.drop))
theorem aih (c:Cfg) (l:CfgAt) (CA:Option Addr) (cc:Nat) (cs:List Int) (w v:Int) {B:Nat} {W:World} (hS:Sl afJ 1 W B CA cs) (hcw:CWf cs) (hc:acR W B c l):Fn_ Tryz.prog 35 #[acM c l,.slice CA cs.length cc,.int .i64 w,.int .i64 v] B W [] (X:=Option Addr×Nat) (fun p =>.slice p.1 (abz c cs w v).length p.2) (fun p =>[abA p.1 (abz c cs w v).length p.2 1 ((abz c cs w v).map (Value.int .i64))]):=by
 by_cases h0:abB c=0
 ·by_cases h:(cs.length:Int)=aaQ c∧0≤w∧w<c.workers
  ·by_cases hv:0≤v∧v<c.levels
   ·rw [anz h0 h.1 h.2 hv]
    exact anN c l CA cc cs h0 (aoX (ac9 h0)) h.1 w v h.2 hv hS hcw hc
   ·rw [agK (by omega)]
    exact amp c l CA cc cs h0 (aoX (ac9 h0)) h.1 w v h.2 hv hS hcw hc
  ·rw [agK (by omega)]
   exact amr c l CA cc cs h0 w v h hS hcw hc
 ·rw [agK (by omega)]
  exact amq c l CA cc cs h0 w v hS hcw hc
end
end Go.Proofs.YtjjbdbbmdhncjaaGreat
