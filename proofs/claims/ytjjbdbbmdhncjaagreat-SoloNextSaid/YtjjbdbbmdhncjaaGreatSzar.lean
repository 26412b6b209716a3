/- Walks by program: the iterator over the injector's groups. Walks by program: what is taken from the injector,over the iterator. Walks by program: what a worker alone starts,in the program and in the reference. What a worker alone starts,and its entries,in the evaluator's words. The law SoloNext in the evaluator's form. The law SoloNext,as a function of its arguments,always answers true. From the readings of the arguments to our words. -/
import Derived.Test.YtjjbdbbmdhncjaaGreatSzaq
import Derived.Test.YtjjbdbbmdhncjaaGreatSzac
import Derived.Test.YtjjbdbbmdhncjaaGreatSzai
import Derived.Test.YtjjbdbbmdhncjaaGreatSzan
import Derived.OpenShut
import Derived.ProofKit
import Derived.Deep.Slices
import Derived.Deep.Fields
import Derived.ChangeSame
set_option linter.all false
namespace Go.Proofs.YtjjbdbbmdhncjaaGreat
section
open Go Go.RowKit
structure Grp where
 A:Option Addr
 cp:Nat
 q:Nat
def kOf (c:Cfg) (m:Nat):Int:=if (m:Int)<c.batch then m else c.batch
theorem ati (c:Cfg) (m:Nat) (hb:1≤c.batch):(kOf c m=m∧(m:Int)<c.batch)∨(kOf c m=c.batch∧c.batch≤m):=by
 unfold kOf; split
 ·exact .inl ⟨rfl,by assumption⟩
 ·exact .inr ⟨rfl,by omega⟩
def aF7 (c:Cfg) (cs:List Int) (x:Grp):Array Value:=#[.slice x.A (kOf c ((adX cs).toNat-x.q)).toNat x.cp]
def aF6 (cs:List Int) (x:Grp):List aak:=[abA x.A ((adX cs).toNat-x.q) x.cp 1 (((aaI cs).drop x.q).map (Value.int .u64))]
def auJ (c:Cfg) (cs:List Int):Prop:=1≤adX cs∧adX cs≤c.heap
def aFg (c:Cfg) (cs:List Int) (pre:List Grp) (x:Grp):Prop:=x.q=pre.length*c.batch.toNat∧x.q<(adX cs).toNat∧auJ c cs
def aF5 (c:Cfg) (cs:List Int) (xs:List Grp):Prop:=(¬ auJ c cs∧xs=[])∨(auJ c cs∧(adX cs).toNat≤xs.length*c.batch.toNat)
theorem atc (pre:List Grp) (x:Grp) (b:Nat):(pre++[x]).length*b=pre.length*b+b:=by
 rw [List.length_append,List.length_singleton,Nat.add_mul,Nat.one_mul]
theorem ate (c:Cfg) (hn:CNums c) (B:Nat) (W:World) (L:List aak):adV Tryz.prog 179 #[.agg (lyL c).toArray,.int .i64 0] B W L (.int .i64 4):=by
 have h:=aqh c hn 0 B W L
 have hh:=hn.h
 rwa [show atV 0 c.heap 4 1=4 from atM (by omega) (by omega)] at h
theorem aqA (A0:Option Addr) (cap n:Nat) (xs:List Int) (hn:xs.length=n) (h1:1≤xs.length) (h2:xs.length≤12) {B:Nat} {W:World} (hS:Sl afJ 1 W B A0 xs):Fn_ Tryz.prog 178 #[.slice A0 n cap] B W [] (X:=Option Addr×Nat) (fun p =>.slice p.1 n p.2) (fun p =>[abA p.1 n p.2 1 ((ab2 xs).map (Value.int .u64))]):=by
 subst hn; exact amG A0 cap xs h1 h2 hS
theorem auT {xs:List Int} {p q k:Nat} {f:Int→Value} (h:q=p+k∨(xs.length≤q∧xs.length≤p+k)):(xs.drop q).map f=((xs.drop p).map f).drop k:=by
 rw [← List.map_drop,List.drop_drop]
 rcases h with h | ⟨h,h'⟩
 ·rw [h]
 ·rw [List.drop_eq_nil_of_le h,List.drop_eq_nil_of_le h']
set_option maxRecDepth 100000 in
theorem auM (c:Cfg) (l:CfgAt) (CA:Option Addr) (cc:Nat) (cs:List Int) (hn:CNums c) (hl:(cs.length:Int)=aaQ c) (hcc:cs.length≤cc) (h8:c.heap≤8) {B:Nat} {W:World} (hS:Sl afJ 1 W B CA cs) (hcw:CWf cs) (b1:Nat):aFW Tryz.prog 176 #[.pointer (some ⟨b1,0,none⟩)] (aF7 c cs) B W [pts b1 0 (pcL c l CA cc cs)] (aF6 cs) (aFg c cs) (aF5 c cs) (fun _ =>True):=by
 obtain ⟨t1,t2,t3,t4,t5⟩:=afw hn
 have ht:=hn.t
 have hcl:aaQ c=abh c+5*c.tasks:=rfl
 have hd:=hn.d
 have hh:=hn.h
 have hbt:=hn.b
 intro l0 J Jx hY F u0 hu0
 refine avz Tryz.func176 rfl (m:=53) rfl (Nat.le_of_ble_eq_true rfl) (R:=[(0,.func (.yield l0) #[] #[]),(1,.pointer (some ⟨b1,0,none⟩))]) (by kernel_rfl) (aoY (L1:=[_]) hu0) ?_
 refine aag ?_
 refine ad4 (by kernel_rfl) (by kernel_rfl) ?_
 refine qtn (aan (k:=22) (o':=22) (.tmp aap) (by kernel_rfl) (by rfl)).q ?_
 refine qtn (aax (o:=0) (i:=22) (.tmp aaf) aaf (rfl) rfl (by kernel_rfl)) ?_
 refine qtn (aan (k:=11) (o':=11) (.tmp aa1) (by kernel_rfl) (by rfl)).q ?_
 refine qtn (aaB (o:=0) (i:=11) (k:=11) (us:=(lyL c)) (.tmp aaf) aaf (rfl) (by kernel_rfl) rfl rfl) ?_
 refine qtn (aaw (by kernel_rfl) (.cons (.tmp aaf) .nil) (aqi c hn B W _)) ?_
 refine qtn (ack (i:=2) (.tmp aa1) (.tmp aaf) hS (by omega) (by omega) (by omega) (by kernel_rfl) (Nat.mul_one _)).q ?_
 refine qtn (aci (i:=2) (j:=0) (.tmp aaf) hS (adL (by omega)) rfl (by omega) (by kernel_rfl)) ?_
 refine qtn (abv (.tmp aaf) Tryz.underlying38 Tryz.underlying3 (show _=adX cs from rfl)).q ?_
 refine qtn (aab (.tmp aaf)).q ?_
 refine adI (aad ?_)
 refine aag (aag (aaa ?_))
 refine rtn (aac (.tmp aaf)).q ?_
 refine rtn (abE (.tmp aaf) .const).q ?_
 refine rtn (aac (.tmp aaf)).q ?_
 refine abm aaR aaR (fun h1 =>?_) (fun h1 =>?_)
 ·refine rtk aaf ?_
  refine rtk aap ?_
  refine rtk aaC ?_
  refine rtk aa1 ?_
  refine rtk abk ?_
  refine rtn (aat (b:=true) (.tmp acU) .const).q ?_
  refine aah (aad ?_)
  refine acz (.tmp aaf) ?_
  refine aaz (aao ?_)
  exact axu rfl .nil (fun u h =>⟨⟨_,rfl⟩,.inl ⟨[],.inl ⟨fun hi =>absurd hi.1 (by have:=hi.2; omega),rfl⟩,ajB (L1:=[_]) h⟩⟩)
 ·refine rts (aac (.tmp aa1)).q aaf ?_
  refine rts (aan (k:=0) (o':=0) (.tmp aew) (by kernel_rfl) (by rfl)).q aap ?_
  refine rts (aan (k:=5) (o':=5) (.tmp aaf) (by kernel_rfl) (by rfl)).q aaC ?_
  refine rts (aax (o:=0) (i:=5) (.tmp aaf) aaf (rfl) rfl (by kernel_rfl)) aa1 ?_
  refine rts (afI (.tmp aa1) (.tmp aaf)).q abk ?_
  refine rtn (aat (b:=false) (.tmp acU) (.tmp aaf)).q ?_
  refine aah (aad ?_)
  refine abT (.tmp aaf) (fun h2 =>?_) (fun h2 =>?_)
  ·refine aaz (aao ?_)
   exact axu rfl .nil (fun u h =>⟨⟨_,rfl⟩,.inl ⟨[],.inl ⟨fun hi =>absurd hi.1 (by have:=hi.2; omega),rfl⟩,ajB (L1:=[_]) h⟩⟩)
  ·refine aaD ?_
   refine aad (aag ?_)
   refine axH 13 (by kernel_rfl) rfl (listed:=#[false,false,false,false,false,false,false,false,false,false,false,false,false]) rfl ?_
   refine acD 0 (by kernel_rfl) (l':=#[true,false,false,false,false,false,false,false,false,false,false,false,false]) rfl rfl rfl (aan (k:=22) (o':=22) (.tmp aev) (by kernel_rfl) (by rfl)) aae (aba (by kernel_rfl)) ?_
   refine acD 2 (by kernel_rfl) (l':=#[true,false,true,false,false,false,false,false,false,false,false,false,false]) rfl rfl rfl (aan (k:=11) (o':=11) (.tmp (aar aaf)) (by kernel_rfl) (by rfl)) aae (aba (by kernel_rfl)) ?_
   refine acD 5 (by kernel_rfl) (l':=#[true,false,true,false,false,true,false,false,false,false,false,false,false]) rfl rfl rfl (aan (k:=11) (o':=11) (.tmp (aar aap)) (by kernel_rfl) (by rfl)) aae (aba (by kernel_rfl)) ?_
   refine acD 8 (by kernel_rfl) (l':=#[true,false,true,false,false,true,false,false,true,false,false,false,false]) rfl rfl rfl (aac (.tmp aeg)) aae (aba (by kernel_rfl)) ?_
   refine ao8 [1,3,4,6,7,9,10] 2 rfl (by kernel_rfl) (l':=#[true,true,true,true,true,true,true,true,true,true,true,false,false]) rfl ?_
   refine qtn (aax (o:=0) (i:=22) (.tmp aa1) aaf (rfl) rfl (by kernel_rfl)) ?_
   refine qtn (aaB (o:=0) (i:=11) (k:=11) (us:=(lyL c)) (.tmp aa1) aaf (rfl) (by kernel_rfl) rfl rfl) ?_
   refine qtn (aaw (by kernel_rfl) (.cons (.tmp aaf) (.cons .const .nil)) (ate c hn B W _)) ?_
   refine qtn (aaB (o:=0) (i:=11) (k:=11) (us:=(lyL c)) (.tmp abk) aaf (rfl) (by kernel_rfl) rfl rfl) ?_
   refine qtn (aaw (by kernel_rfl) (.cons (.tmp aaf) (.cons .const .nil)) (ate c hn B W _)) ?_
   refine qtn (aaM (.tmp aaf) (.tmp acU) (w64 (by omega) (by omega))).q ?_
   refine qtn (arI (l:=4) (h':=((4+(adX cs))).toNat) (.tmp acU) Tryz.underlying23 (by kernel_rfl:_=1) (by omega) (adu (.tmp aa1) (by omega)) (adu (.tmp aaf) (by omega)) (by omega) (by omega) rfl).q ?_
   refine adI ?_
   have hkl:((cs.drop 4).take ((4+adX cs).toNat-4)).length=(4+adX cs).toNat-4:=by rw [List.length_take,List.length_drop]; omega
   have hks:ab2 ((cs.drop 4).take ((4+adX cs).toNat-4))=aaI cs:=by rw [show (4+adX cs).toNat-4=(adX cs).toNat by omega]; rfl
   have hksl:(aaI cs).length=(adX cs).toNat:=by rw [← hks,acB]; omega
   refine aEt 11 (by kernel_rfl) (l':=#[true,true,true,true,true,true,true,true,true,true,true,true,false]) rfl rfl (adj (by kernel_rfl) (.cons (.tmp aaf) .nil) (aqA _ _ _ _ hkl (by omega) (by omega) (ayC hS (by omega) (.inl (by omega)))) .nil) aae (fun _ =>(aba (by kernel_rfl))) ?_
   rintro ⟨A3,c3⟩
   refine atK (acQ hks rfl Ent.refl) ?_
   refine acD 12 (by kernel_rfl) (l':=#[true,true,true,true,true,true,true,true,true,true,true,true,true]) rfl rfl rfl (aab (.tmp aaf)) aae (aba (by kernel_rfl)) ?_
   refine ax5 (by kernel_rfl) ?_
   refine aad ?_
   refine aaU ?_
   have hin:auJ c cs:=⟨by omega,by omega⟩
   have hNe:((4+adX cs).toNat-4)=(adX cs).toNat:=by omega
   refine agP (X:=List Grp) (Y:=Option Addr) (Z:=Nat) (fun pre A cx =>(adX cs).toNat-(pre.length*c.batch.toNat)) (fun pre A cx =>True) (fun pre A cx =>[(4,.slice A (((adX cs).toNat-(pre.length*c.batch.toNat))) cx),(0,.func (.yield l0) #[] #[]),(1,.pointer (some ⟨b1,0,none⟩))]) (fun pre A cx =>abA A ((adX cs).toNat-(pre.length*c.batch.toNat)) cx 1 (((aaI cs).drop (pre.length*c.batch.toNat)).map (Value.int .u64))::pts b1 0 (pcL c l CA cc cs)::aic (J pre)::[F]) [] A3 c3 (trivial) (.cons aaf (by simp only [List.length_nil,Nat.zero_mul,Nat.sub_zero,hNe]) (.cons (aar acT) rfl (.cons (aar aeg) rfl .nil))) ((acQ (by simp) (by simp [hNe]) Ent.refl)) (fun pre A cx hi4 =>?_)
   clear hi4
   refine axG (asL aaf) (fun hcap =>?_)
   refine aag (aag (aaa ?_))
   refine rtn (aac (.tmp aaf)).q ?_
   refine rtn (adq (.tmp aaf) Tryz.underlying23).q ?_
   refine rtn (afI (.tmp aaf) .const).q ?_
   refine aah (aad ?_)
   refine abT (.tmp aaf) (fun h5 =>?_) (fun h5 =>?_)
   ·refine aaD ?_
    refine aad ?_
    refine aaU ?_
    refine aag (aaa ?_)
    refine rtn (aan (k:=0) (o':=0) (.tmp acU) (by kernel_rfl) (by rfl)).q ?_
    refine rtn (aan (k:=6) (o':=6) (.tmp aaf) (by kernel_rfl) (by rfl)).q ?_
    refine rtn (aax (o:=0) (i:=6) (.tmp aaf) aap (rfl) rfl (by kernel_rfl)) ?_
    refine rtn (aac (.tmp adz)).q ?_
    refine rtn (adq (.tmp aaf) Tryz.underlying23).q ?_
    have hk:=ati c ((adX cs).toNat-(pre.length*c.batch.toNat)) (by omega)
    refine rtn (aAD (.tmp aaC) (.tmp aaf)).q ?_
    refine rtn (aab (.tmp aaf)).q ?_
    refine aah (aad ?_)
    refine aag (aag (aaa ?_))
    refine rtn (aac (.tmp acT)).q ?_
    refine rtn (aac (.tmp acT)).q ?_
    refine rtn (aac (.tmp aaC)).q ?_
    refine rtn (aga (h':=((kOf c ((adX cs).toNat-(pre.length*c.batch.toNat)))).toNat) (.tmp aap) Tryz.underlying23 (by kernel_rfl:_=1) (by omega) (adu (.tmp aaf) (by omega)) (by omega)).q ?_
    have hlen:=atc pre ⟨A,cx,(pre.length*c.batch.toNat)⟩ c.batch.toNat
    refine ayN (L1:=[abA A ((adX cs).toNat-(pre.length*c.batch.toNat)) cx 1 (((aaI cs).drop (pre.length*c.batch.toNat)).map (Value.int .u64)),pts b1 0 (pcL c l CA cc cs),aic (J (pre++[⟨A,cx,(pre.length*c.batch.toNat)⟩])),F]) (L2:=[abA A ((adX cs).toNat-(pre.length*c.batch.toNat)) cx 1 (((aaI cs).drop (pre.length*c.batch.toNat)).map (Value.int .u64)),pts b1 0 (pcL c l CA cc cs),aic (Jx (pre++[⟨A,cx,(pre.length*c.batch.toNat)⟩])),F]) (.tmp aa1) (.cons (.tmp aaf) .nil) (fun u hu =>YieldAt.mono (hY pre ⟨A,cx,(pre.length*c.batch.toNat)⟩ F u ⟨rfl,(by show (pre.length*c.batch.toNat)<(adX cs).toNat; omega),hin⟩ (ajB (L1:=[_,_]) hu)) ?_) aae (fun b =>(aba (by kernel_rfl))) ?_ ?_
    ·rintro e u (⟨rfl,h⟩ | ⟨rfl,h⟩)
     ·exact .inl ⟨rfl,aoY (L1:=[_,_]) h⟩
     ·exact .inr ⟨rfl,aoY (L1:=[_,_]) h⟩
    ·skip
     refine rtn (aef (.tmp aaf)).q ?_
     refine aah (aad ?_)
     refine afK (.tmp aaf) ?_
     refine aaD ?_
     refine aad (aaa ?_)
     refine rtn (aac (.tmp aem)).q ?_
     refine rtn (aac (.tmp aeX)).q ?_
     refine rtn (afe (l:=((kOf c ((adX cs).toNat-(pre.length*c.batch.toNat)))).toNat) (.tmp aap) Tryz.underlying23 (by kernel_rfl:_=1) (by omega) (adu (.tmp aaf) (by omega)) (by omega) (by omega) rfl).q ?_
     refine aa5 (aab (.tmp aaf)).q aae (aaj agY (by kernel_rfl)) ?_
     refine aah ?_
     refine aa7 ?_
     exact adU (n:=53) (pre++[⟨A,cx,(pre.length*c.batch.toNat)⟩]) _ (cx-(kOf c ((adX cs).toNat-(pre.length*c.batch.toNat))).toNat) (trivial) (by omega) (.cons aaf (congrArg (fun m =>Value.slice _ m _) (by omega)) (.cons (aar aaf) rfl (.cons (aar aap) rfl .nil))) (ayQ (by omega) (by omega) (auT (by omega)))
    ·skip
     refine rtn (aef (.tmp aaf)).q ?_
     refine aah (aad ?_)
     refine acz (.tmp aaf) ?_
     refine aaz (aao ?_)
     refine abK ?_
     refine aao ?_
     refine abK ?_
     exact axu rfl .nil (fun u h =>⟨⟨_,rfl⟩,.inr ⟨_,trivial,ajB (L1:=[_]) (h.ent Ent.drop)⟩⟩)
   ·refine aco ?_
    refine aaq ?_
    refine aaq ?_
    refine aaK ?_
    exact auQ rfl .nil (fun u h =>⟨⟨_,rfl⟩,.inl ⟨_,.inr ⟨hin,by omega⟩,ajB (L1:=[_]) (h.ent Ent.drop)⟩⟩)
theorem arZ {k:IntKind} {xs:List Int} {q i:Nat} (h:q+i<xs.length):((xs.drop q).map (Value.int k))[i]?=some (.int k (gi xs (q+i))):=by
 rw [List.getElem?_map,List.getElem?_drop,adL h]; rfl
def axm (p:Prop) (A:aak):aak:=fun h =>p∧A h
theorem ar3 {p:Prop} {A:aak} {L:List aak} {B:Nat} {w:World} (h:Sat B w (axm p A::L)):p:=by
 obtain ⟨_,_,_,_,_,_,h1,_⟩:=h; exact h1.1
theorem aoR {p:Prop} {A:aak} {L:List aak} (hp:p):Ent (A::L) (axm p A::L):=Ent.cons (fun _ h =>⟨hp,h⟩) Ent.refl
theorem aj8 {p:Prop} {A:aak} {L:List aak}:Ent (axm p A::L) (A::L):=Ent.cons (fun _ h =>h.2) Ent.refl
theorem Ent.tail {A:aak} {L M:List aak} (h:Ent L M):Ent (A::L) (A::M):=Ent.cons (fun _ h =>h) h
theorem at8 {n d:Nat} {a:Act} {R:abn} {v:Value} (r:Regs n a R) (h:akF n R d=true):Regs n { tmps:=(#[d].zip #[v]).foldl (fun t (p,v) =>t.setIfInBounds p v) a.tmps,defers:=[] } ((d,v)::R):=by
 have h1:=aba (v:=v) h a r
 have e:({ tmps:=(#[d].zip #[v]).foldl (fun t (p,v) =>t.setIfInBounds p v) a.tmps,defers:=[] }:Act)=a.put (some d) v:=by
  have:=r.defers
  cases a; subst this
  show Act.mk _ _=Act.mk _ _
  rw [show (#[d].zip #[v])=#[(d,v)] from by simp]
  rfl
 rw [e]; exact h1
theorem axd {b:Bool} {p q:Int} (h:(!b)=false) (h2:¬ p≤q):¬ (b=false∨p≤q):=by
 rintro (h3 | h3)
 ·rw [h3] at h; cases h
 ·exact h2 h3
theorem aqb {b:Bool} (h:(!b)=true):b=false:=by simpa using h
set_option maxRecDepth 100000 in
theorem arY (c:Cfg) (l:CfgAt) (CA:Option Addr) (cc:Nat) (cs:List Int) {B:Nat} {W:World}:Fn_ Tryz.prog 118 #[.agg (pcL c l CA cc cs).toArray] B W [] (X:=Nat) (fun b =>.func (.func 176) #[] #[.pointer (some ⟨b,0,none⟩)]) (fun b =>[pts b 0 (pcL c l CA cc cs)]):=by
 refine acV Tryz.func118 rfl (m:=4) rfl (Nat.le_of_ble_eq_true rfl) (R:=[(0,.agg (pcL c l CA cc cs).toArray)]) (by kernel_rfl) (fun F =>?_)
 refine aag (aaa ?_)
 refine rtm (abX (.tmp aaf) (us:=(pcL c l CA cc cs)) rfl) ?_
 rintro b1
 refine rtn (aab .const).q ?_
 refine aah (aad ?_)
 refine aag (aaa ?_)
 refine rtn (alK (.cons (.tmp aap) .nil)).q ?_
 refine aa5 (aab (.tmp aaf)).q aae (aaj agv (by kernel_rfl)) ?_
 refine aah (aad (aaz ?_))
 exact aeZ b1 rfl (.cons aaf .nil) rfl Ent.refl
set_option maxRecDepth 100000 in
theorem aoE (c:Cfg) (l:CfgAt) (CA:Option Addr) (cc:Nat) (cs:List Int) (hn:CNums c) (hl:(cs.length:Int)=aaQ c) (hcc:cs.length≤cc) (h8:c.heap≤8) {B:Nat} {W:World} (hS:Sl afJ 1 W B CA cs) (hcw:CWf cs) (L:List aak):adV Tryz.prog 74 #[.agg (pcL c l CA cc cs).toArray] B W L (.tuple #[.int .i64 ((amD c cs).getD 0),.bool (amD c cs).isSome]):=by
 obtain ⟨t1,t2,t3,t4,t5⟩:=afw hn
 have ht:=hn.t
 have hcl:aaQ c=abh c+5*c.tasks:=rfl
 have hd:=hn.d
 have hh:=hn.h
 have hbt:=hn.b
 have hkw:=ant hcw
 intro w0 hw0
 refine arO Tryz.func74 rfl (m:=53) rfl (Nat.le_of_ble_eq_true rfl) (R:=[(0,.agg (pcL c l CA cc cs).toArray)]) (by kernel_rfl) (show Cls B W [aic L] w0 from aoZ (L:=[]) hw0) ?_
 refine aag (aaa ?_)
 refine rtm (abX (.tmp aaf) (us:=(pcL c l CA cc cs)) rfl) ?_
 rintro b1
 refine rtm (acd (v:=.int .i64 0) (us:=[.int .i64 0]) (by kernel_rfl) rfl) ?_
 rintro b2
 refine rtm (acd (v:=.bool false) (us:=[.bool false]) (by kernel_rfl) rfl) ?_
 rintro b3
 refine aah (aad ?_)
 refine aag (aag (aaa ?_))
 refine rtn (aaB (o:=0) (i:=0) (k:=23) (us:=(pcL c l CA cc cs)) (.tmp aaC) aaC (rfl) (by kernel_rfl) rfl rfl) ?_
 refine rtm (adj (by kernel_rfl) (.cons (.tmp aaf) .nil) (arY c l CA cc cs) .nil) ?_
 rintro b4
 refine aah (aad ?_)
 refine aaU ?_
 intro a w s
 have hseq:=auM c l CA cc cs hn hl hcc h8 hS hcw b4
 refine aqS ((EvalR.tmp aaf).eval s.regs) (fun args w =>ao1 rfl args) hseq (fun _ =>rfl) (fun pre =>[axm (auJ c cs→amD c cs=adQ c cs ((adX cs).toNat-pre.length*c.batch.toNat) ((aaI cs).drop (pre.length*c.batch.toNat))) (pts b3 0 [.bool false]),pts b2 0 [.int .i64 0],pts b1 0 (pcL c l CA cc cs)]) (fun _ =>[axm ((amD c cs).isSome=true) (pts b3 0 [.bool true]),pts b2 0 [.int .i64 ((amD c cs).getD 0)],pts b1 0 (pcL c l CA cc cs)]) (F0:=aic L) (s.cls.ent (Ent.tail (aoR (fun hi =>by rw [List.length_nil,Nat.zero_mul]; exact aw6 hi rfl)))) (fun x a' =>Regs 53 a' [(4,.slice x.A (kOf c ((adX cs).toNat-x.q)).toNat x.cp),(16,.slice x.A (kOf c ((adX cs).toNat-x.q)).toNat x.cp),(15,.func (.func 176) #[] #[.pointer (some ⟨b4,0,none⟩)]),(14,.agg (pcL c l CA cc cs).toArray),(3,.pointer (some ⟨b3,0,none⟩)),(2,.pointer (some ⟨b2,0,none⟩)),(1,.pointer (some ⟨b1,0,none⟩)),(0,.agg (pcL c l CA cc cs).toArray)]) ?_ ?_ ?_ ?_
 ·intro l0 x u K hK
  exact au4 (R:=[(16,.slice x.A (kOf c ((adX cs).toNat-x.q)).toNat x.cp),(15,.func (.func 176) #[] #[.pointer (some ⟨b4,0,none⟩)]),(14,.agg (pcL c l CA cc cs).toArray),(3,.pointer (some ⟨b3,0,none⟩)),(2,.pointer (some ⟨b2,0,none⟩)),(1,.pointer (some ⟨b1,0,none⟩)),(0,.agg (pcL c l CA cc cs).toArray)]) (aab (.tmp aaf)) rfl (aba (by kernel_rfl)) (at8 s.regs (by kernel_rfl)) hK
 ·rintro l0 pre x F u a1 ha1 ⟨hxq,hxN,hin⟩ hu
  have hp0:=ar3 ((hu.ent Ent.drop).ent Ent.drop).2.2
  have hksl:(aaI cs).length=(adX cs).toNat:=arW hin (by omega)
  have hk:=ati c ((adX cs).toNat-x.q) (by omega)
  have hin2:=hin.1
  have hin3:=hin.2
  refine (?_:CT (some l0) Tryz.prog _ 53 B W _ [(4,.slice x.A (kOf c ((adX cs).toNat-x.q)).toNat x.cp),(16,.slice x.A (kOf c ((adX cs).toNat-x.q)).toNat x.cp),(15,.func (.func 176) #[] #[.pointer (some ⟨b4,0,none⟩)]),(14,.agg (pcL c l CA cc cs).toArray),(3,.pointer (some ⟨b3,0,none⟩)),(2,.pointer (some ⟨b2,0,none⟩)),(1,.pointer (some ⟨b1,0,none⟩)),(0,.agg (pcL c l CA cc cs).toArray)] _) a1 u ((hu.ent (Ent.tail (Ent.tail aj8))).st ha1)
  refine aaU ?_
  refine aag (aaa ?_)
  refine rtn (aab .const).q ?_
  refine rtn (aab .const).q ?_
  refine rtn (aab .const).q ?_
  refine aah (aad ?_)
  refine aag (aag (aaa ?_))
  refine rtn (aac (.tmp aa1)).q ?_
  refine rtn (adq (.tmp aaf) Tryz.underlying23).q ?_
  refine rtn (aac .const).q ?_
  refine aah (aad ?_)
  refine aaU ?_
  refine aey (X:=Nat) (fun i =>(kOf c ((adX cs).toNat-x.q)).toNat-i) (fun i =>i≤(kOf c ((adX cs).toNat-x.q)).toNat) (fun i =>[(19,.int .i64 ((i:Int))),(18,.int .i64 ((((kOf c ((adX cs).toNat-x.q)).toNat:Nat):Int))),(17,.slice x.A ((kOf c ((adX cs).toNat-x.q)).toNat) x.cp),(7,.bool ((aeU c cs (aaI cs) x.q (x.q+i)).2.2)),(6,.int .u64 ((aeU c cs (aaI cs) x.q (x.q+i)).2.1)),(5,.int .i64 ((aeU c cs (aaI cs) x.q (x.q+i)).1)),(3,.pointer (some ⟨b3,0,none⟩)),(2,.pointer (some ⟨b2,0,none⟩)),(1,.pointer (some ⟨b1,0,none⟩))]) (fun i =>abA x.A ((adX cs).toNat-x.q) x.cp 1 (((aaI cs).drop x.q).map (Value.int .u64))::pts b4 0 (pcL c l CA cc cs)::pts b3 0 [.bool false]::pts b2 0 [.int .i64 0]::pts b1 0 (pcL c l CA cc cs)::[F]) 0 (by omega) (.cons aaf (congrArg (Value.int .i64) (by first | rfl | omega | (simp; omega) | simp)) (.cons aap rfl (.cons aaC rfl (.cons aa1 (congrArg Value.bool (by simp [aeU,axe])) (.cons abk (congrArg (Value.int .u64) (by simp [aeU,axe])) (.cons acU (congrArg (Value.int .i64) (by simp [aeU,axe])) (.cons acP rfl (.cons acT rfl (.cons aeg rfl .nil))))))))) (Ent.refl) (fun i hi101 =>?_)
  have hi0:=hi101
  refine aag (aaa ?_)
  refine rtn (abE (.tmp aaf) (.tmp aap)).q ?_
  refine aah (aad (aag ?_))
  refine abT (.tmp aaf) (fun h102 =>?_) (fun h102 =>?_)
  ·refine aaD ?_
   refine aad (aag ?_)
   refine aaU ?_
   refine aag (aaa ?_)
   refine rtn (acj (i:=i) (.tmp aa1) (.tmp aap) aaf (by omega) (by omega) (by omega) (by kernel_rfl) (Nat.mul_one _)) ?_
   refine rtn (adk (i:=i) (.tmp aaf) aaf (arZ (by omega)) (by kernel_rfl)) ?_
   refine rtn (aab (.tmp aaf)).q ?_
   refine aah (aad ?_)
   refine aag (aaa ?_)
   refine rtn (aac (.tmp aaf)).q ?_
   have hkj:=hkw (x.q+i)
   refine rtn (aaw (by kernel_rfl) (.cons (.tmp aaf) .nil) (aqV _ (by omega) (by omega) B W _)) ?_
   refine rtn (aac (.tmp aaf)).q ?_
   refine rtn (aaA (.tmp aaf) rfl).q ?_
   refine rtn (aaA (.tmp aap) rfl).q ?_
   refine rtn (aaA (.tmp aaC) rfl).q ?_
   refine rtn (aab (.tmp aaC)).q ?_
   refine rtn (aab (.tmp aaC)).q ?_
   refine rtn (aab (.tmp aaC)).q ?_
   refine aah (aad ?_)
   refine aag (aag (aaa ?_))
   refine rtn (aaB (o:=0) (i:=0) (k:=23) (us:=(pcL c l CA cc cs)) (.tmp (aar aap)) abk (rfl) (by kernel_rfl) rfl rfl) ?_
   refine rtn (aac (.tmp aap)).q ?_
   refine rtn (aaw (by kernel_rfl) (.cons (.tmp aap) (.cons (.tmp aaf) .nil)) (amY c l CA cc cs hn hl _ hS hcw _)) ?_
   refine rtn (aef (.tmp aaf)).q ?_
   refine aah (aad ?_)
   refine ajA (.tmp aaf) (fun h103 =>?_) (fun h103 =>?_)
   ·refine aco ?_
    refine aaq ?_
    refine aaK ?_
    refine aad (aaa ?_)
    refine rtn (aaM (.tmp ad9) .const (w64 (by omega) (by omega))).q ?_
    refine aa5 (aac (.tmp aaf)).q aae (aaj aDG (by kernel_rfl)) ?_
    refine aah ?_
    have hgs:aeU c cs (aaI cs) x.q (x.q+(i+1))=(aeU c cs (aaI cs) x.q (x.q+i)):=by first | exact aoG (j:=(x.q+i)) (by omega) (by omega) (ai2 (by assumption)) | exact ajv (j:=(x.q+i)) (by omega) (by omega) (axd (by assumption) (by rw [← hcell]; omega))
    exact abW (n:=53) ((i+1)) (by omega) (by omega) (.cons aaf (congrArg (Value.int .i64) (by first | rfl | omega | (simp; omega) | simp)) (.cons aev rfl (.cons (aar aaf) rfl (.cons (aar aap) (congrArg Value.bool (by rw [hgs])) (.cons (aar aaC) (congrArg (Value.int .u64) (by rw [hgs]<;>first | exact hcell | rfl)) (.cons (aar aa1) (congrArg (Value.int .i64) (by rw [hgs]<;>first | exact hcell | rfl)) (.cons (aar abk) rfl (.cons (aar acU) rfl (.cons (aar adz) rfl .nil))))))))) (Ent.refl)
   ·refine aaD ?_
    refine aad (aag ?_)
    refine ad4 (by kernel_rfl) (by kernel_rfl) ?_
    refine qtn (aan (k:=22) (o':=22) (.tmp (aar acU)) (by kernel_rfl) (by rfl)).q ?_
    refine qtn (aax (o:=0) (i:=22) (.tmp aaf) abk (rfl) rfl (by kernel_rfl)) ?_
    refine qtn (aan (k:=11) (o':=11) (.tmp (aar aeX)) (by kernel_rfl) (by rfl)).q ?_
    refine qtn (aaB (o:=0) (i:=11) (k:=11) (us:=(lyL c)) (.tmp aaf) abk (rfl) (by kernel_rfl) rfl rfl) ?_
    refine qtn (aac (.tmp adK)).q ?_
    obtain ⟨ht0,ht1⟩:=apK (by assumption)
    have hat:atV ((gi (aaI cs) (x.q+i)) % 65536) c.tasks (abh c+1) 5=abh c+1+((gi (aaI cs) (x.q+i)) % 65536)*5:=atM (by omega) (by omega)
    have hcell:gi cs (atV ((gi (aaI cs) (x.q+i)) % 65536) c.tasks (abh c+1) 5).toNat=ad8 cs (abh c+1+(gi (aaI cs) (x.q+i)) % 65536*5):=by rw [hat]; rfl
    refine qtn (aaw (by kernel_rfl) (.cons (.tmp aap) (.cons (.tmp aaf) .nil)) (aoz c hn _ B W _)) ?_
    refine qtn (ack (i:=((atV (((gi (aaI cs) (x.q+i)) % 65536)) c.tasks (abh c+1) 5)).toNat) (.tmp abk) (.tmp aaf) hS (by omega) (by omega) (by omega) (by kernel_rfl) (Nat.mul_one _)).q ?_
    refine qtn (aci (i:=((atV (((gi (aaI cs) (x.q+i)) % 65536)) c.tasks (abh c+1) 5)).toNat) (j:=0) (.tmp aaf) hS (adL (by omega)) rfl (by omega) (by kernel_rfl)) ?_
    refine qtn (aab (.tmp aaf)).q ?_
    refine adI (aad ?_)
    refine aag (aaa ?_)
    refine rtn (aac (.tmp (aar aff))).q ?_
    refine rtn (aef (.tmp aaf)).q ?_
    refine rtn (aac (.tmp aaf)).q ?_
    refine ayO aaR aaR (fun h104 =>?_) (fun h104 =>?_)
    ·refine rtk aaf ?_
     refine rtk aap ?_
     refine rtk aaC ?_
     refine rtn (aat (b:=true) (.tmp aa1) .const).q ?_
     refine aah (aad ?_)
     refine acz (.tmp aaf) ?_
     refine aaa ?_
     refine rtn (aac (.tmp (aar aaf))).q ?_
     refine rtn (aac (.tmp adK)).q ?_
     refine aa5 (aab (.tmp aap)).q aae (aaj (aa0 (aa0 aeW)) (by kernel_rfl)) ?_
     refine aa5 (aab (.tmp aap)).q aae (aaj (aa0 (aa0 aeW)) (by kernel_rfl)) ?_
     refine aa5 (aab .const).q aae (aaj (aa0 (aa0 aeW)) (by kernel_rfl)) ?_
     refine aah ?_
     refine aa7 ?_
     refine aad (aaa ?_)
     refine rtn (aaM (.tmp (aar aeP)) .const (w64 (by omega) (by omega))).q ?_
     refine aa5 (aac (.tmp aaf)).q aae (aaj (aa0 agY) (by kernel_rfl)) ?_
     refine aah ?_
     have hgs:aeU c cs (aaI cs) x.q (x.q+(i+1))=_:=ak7 (c:=c) (cs:=cs) (ks:=(aaI cs)) (q:=x.q) (j:=(x.q+i)) (by omega) (by omega) (ahQ (by assumption)) (by first | exact .inl (aqb (by assumption)) | exact .inr (by rw [← hcell]; omega))
     exact abW (n:=53) ((i+1)) (by omega) (by omega) (.cons aaf (congrArg (Value.int .i64) (by first | rfl | omega | (simp; omega) | simp)) (.cons (aar (aar aaf)) rfl (.cons (aar (aar aap)) rfl (.cons aaC (congrArg Value.bool (by rw [hgs])) (.cons aa1 (congrArg (Value.int .u64) (by rw [hgs]<;>first | exact hcell | rfl)) (.cons abk (congrArg (Value.int .i64) (by rw [hgs]<;>first | exact hcell | rfl)) (.cons (aar (aar aaC)) rfl (.cons (aar (aar aa1)) rfl (.cons (aar (aar abk)) rfl .nil))))))))) (Ent.refl)
    ·refine rts (aac (.tmp aa1)).q aaf ?_
     refine rts (aac (.tmp (aar aew))).q aap ?_
     refine rts (acr (.tmp aap) (.tmp aaf)).q aaC ?_
     refine rtn (aat (b:=false) (.tmp aa1) (.tmp aaf)).q ?_
     refine aah (aad ?_)
     refine abT (.tmp aaf) (fun h105 =>?_) (fun h105 =>?_)
     ·refine aaa ?_
      refine rtn (aac (.tmp (aar aaf))).q ?_
      refine rtn (aac (.tmp adK)).q ?_
      refine aa5 (aab (.tmp aap)).q aae (aaj (aa0 (aa0 aeW)) (by kernel_rfl)) ?_
      refine aa5 (aab (.tmp aap)).q aae (aaj (aa0 (aa0 aeW)) (by kernel_rfl)) ?_
      refine aa5 (aab .const).q aae (aaj (aa0 (aa0 aeW)) (by kernel_rfl)) ?_
      refine aah ?_
      refine aa7 ?_
      refine aad (aaa ?_)
      refine rtn (aaM (.tmp (aar aeP)) .const (w64 (by omega) (by omega))).q ?_
      refine aa5 (aac (.tmp aaf)).q aae (aaj (aa0 agY) (by kernel_rfl)) ?_
      refine aah ?_
      have hgs:aeU c cs (aaI cs) x.q (x.q+(i+1))=_:=ak7 (c:=c) (cs:=cs) (ks:=(aaI cs)) (q:=x.q) (j:=(x.q+i)) (by omega) (by omega) (ahQ (by assumption)) (by first | exact .inl (aqb (by assumption)) | exact .inr (by rw [← hcell]; omega))
      exact abW (n:=53) ((i+1)) (by omega) (by omega) (.cons aaf (congrArg (Value.int .i64) (by first | rfl | omega | (simp; omega) | simp)) (.cons (aar (aar aaf)) rfl (.cons (aar (aar aap)) rfl (.cons aaC (congrArg Value.bool (by rw [hgs])) (.cons aa1 (congrArg (Value.int .u64) (by rw [hgs]<;>first | exact hcell | rfl)) (.cons abk (congrArg (Value.int .i64) (by rw [hgs]<;>first | exact hcell | rfl)) (.cons (aar (aar aaC)) rfl (.cons (aar (aar aa1)) rfl (.cons (aar (aar abk)) rfl .nil))))))))) (Ent.refl)
     ·refine aaD ?_
      refine aa7 ?_
      refine aad (aaa ?_)
      refine rtn (aaM (.tmp (aar ad3)) .const (w64 (by omega) (by omega))).q ?_
      refine aa5 (aac (.tmp aaf)).q aae (aaj (aa0 ank) (by kernel_rfl)) ?_
      refine aah ?_
      have hgs:aeU c cs (aaI cs) x.q (x.q+(i+1))=(aeU c cs (aaI cs) x.q (x.q+i)):=by first | exact aoG (j:=(x.q+i)) (by omega) (by omega) (ai2 (by assumption)) | exact ajv (j:=(x.q+i)) (by omega) (by omega) (axd (by assumption) (by rw [← hcell]; omega))
      exact abW (n:=53) ((i+1)) (by omega) (by omega) (.cons aaf (congrArg (Value.int .i64) (by first | rfl | omega | (simp; omega) | simp)) (.cons (aar adP) rfl (.cons (aar aem) rfl (.cons (aar ad9) (congrArg Value.bool (by rw [hgs])) (.cons (aar aeP) (congrArg (Value.int .u64) (by rw [hgs]<;>first | exact hcell | rfl)) (.cons (aar aev) (congrArg (Value.int .i64) (by rw [hgs]<;>first | exact hcell | rfl)) (.cons (aar (aar aaf)) rfl (.cons (aar (aar aap)) rfl (.cons (aar (aar aaC)) rfl .nil))))))))) (Ent.refl)
  ·refine aco ?_
   refine aaq ?_
   refine aaq ?_
   refine aaK ?_
   refine aad (aag (aaa ?_))
   refine rtn (aac (.tmp abk)).q ?_
   refine aah (aad ?_)
   refine ajA (.tmp aaf) (fun h106 =>?_) (fun h106 =>?_)
   ·refine aag (aaa ?_)
    refine rtn (aac (.tmp aeX)).q ?_
    refine ahi (abg (o:=0) (i:=0) (k:=1) (us:=[.int .i64 ((aeU c cs (aaI cs) x.q (x.q+i)).1)]) (ws:=[.int .i64 ((aeU c cs (aaI cs) x.q (x.q+i)).1)]) (.tmp acP) (.tmp aaf) aDa (rfl) (by kernel_rfl) rfl (by decide) rfl rfl (by simp) rfl) aae (fun _ =>aa3) (fun _ =>?_)
    refine ahi (abg (o:=0) (i:=0) (k:=1) (us:=[.bool true]) (ws:=[.bool true]) (.tmp aff) .const aDb (rfl) (by kernel_rfl) rfl (by decide) rfl rfl (by simp) rfl) aae (fun _ =>aa3) (fun _ =>?_)
    refine aah (aad (aaz ?_))
    refine abK ?_
    have hy:=arU (c:=c) (cs:=cs) (ks:=(aaI cs)) (i:=(adX cs).toNat) (q:=x.q) (j:=(x.q+i)) hksl (by omega) (by omega) (by omega) (by omega) (by assumption)
    have hv:amD c cs=some (aeU c cs (aaI cs) x.q (x.q+i)).1:=(hp0 hin).trans (by rw [← hxq]; exact hy)
    exact fun a4 w4 s4 =>s4.cls.ent (Ent.tail (Ent.tail ((aoR (p:=(amD c cs).isSome=true) (by rw [hv]; rfl)).trans (Ent.tail (Ent.cons (fun h hh =>by rw [hv]; exact hh) Ent.refl)))))
   ·refine aaD ?_
    refine aa7 ?_
    have hno:=aw4 (c:=c) (cs:=cs) (ks:=(aaI cs)) (i:=(adX cs).toNat) (q:=x.q) (j:=(x.q+i)) (by omega) hksl (by omega) (by omega) (by omega) (by omega) (by assumption)
    exact fun a4 w4 s4 =>s4.cls.ent (Ent.tail (Ent.tail (aoR (fun hi =>by rw [atc,← hxq,← hno,hxq]; exact hp0 hi))))
 ·intro D xs u hxs hu
  have hp0:=ar3 ((hu.ent Ent.drop).ent Ent.drop).2.2
  have hnone:amD c cs=none:=by
   rcases hxs with ⟨h1,rfl⟩ | ⟨h1,h2⟩
   ·exact ak6 (by unfold auJ at h1; omega)
   ·rw [hp0 h1,show (adX cs).toNat-xs.length*c.batch.toNat=0 by omega]; rfl
  rw [s.regs.defers]
  refine (?_:CTd Tryz.prog _ 53 B W _ _ [(15,.func (.func 176) #[] #[.pointer (some ⟨b4,0,none⟩)]),(14,.agg (pcL c l CA cc cs).toArray),(3,.pointer (some ⟨b3,0,none⟩)),(2,.pointer (some ⟨b2,0,none⟩)),(1,.pointer (some ⟨b1,0,none⟩)),(0,.agg (pcL c l CA cc cs).toArray)] _) a u ((hu.ent (Ent.tail (Ent.tail aj8))).st s.regs)
  refine aCB ?_
  refine auV ?_
  refine aDs (abg (o:=0) (i:=0) (k:=1) (us:=[.int .i64 0]) (ws:=[.int .i64 0]) (.tmp aa1) .const aDa rfl (by kernel_rfl) rfl (by decide) rfl rfl (by simp) rfl) aae (fun _ =>aa3) (fun _ =>?_)
  refine aDs (abg (o:=0) (i:=0) (k:=1) (us:=[.bool false]) (ws:=[.bool false]) (.tmp aaC) .const aDb rfl (by kernel_rfl) rfl (by decide) rfl rfl (by simp) rfl) aae (fun _ =>aa3) (fun _ =>?_)
  refine ayM ?_
  exact aCC rfl (.cell aa1 aaC (by kernel_rfl) rfl (.cell aaC aap (by kernel_rfl) rfl .nil)) (fun w5 h =>⟨by rw [hnone]; rfl,ah9 (L:=[]) (((((h.ent Ent.drop).ent Ent.drop).ent Ent.drop).ent Ent.drop))⟩)
 ·intro D pre u _ hu
  have hp0:=ar3 ((hu.ent Ent.drop).ent Ent.drop).2.2
  rw [s.regs.defers]
  exact ayt (R:=[(15,.func (.func 176) #[] #[.pointer (some ⟨b4,0,none⟩)]),(14,.agg (pcL c l CA cc cs).toArray),(3,.pointer (some ⟨b3,0,none⟩)),(2,.pointer (some ⟨b2,0,none⟩)),(1,.pointer (some ⟨b1,0,none⟩)),(0,.agg (pcL c l CA cc cs).toArray)]) rfl (.cell aa1 aaC (by kernel_rfl) rfl (.cell aaC aap (by kernel_rfl) rfl .nil)) (fun w5 h =>⟨by rw [hp0]; rfl,ah9 (L:=[]) (((((h.ent Ent.drop).ent Ent.drop).ent Ent.drop).ent Ent.drop))⟩) s.regs (hu.ent (Ent.tail (Ent.tail aj8)))
theorem arN {c:Cfg} {cs:List Int} {d w:Int} (h:ajw c cs w=true) (hw:1≤c.workers) (hl:1≤c.levels) (hb:¬ 0≤(abw c cs w).2) (hi:(amD c cs).isSome=false):ada c cs d w=alh c cs d w :=
 anl h hw hl hb hi rfl
set_option maxRecDepth 100000 in
theorem aps (c:Cfg) (l:CfgAt) (CA:Option Addr) (cc:Nat) (cs:List Int) (hn:CNums c) (hl:(cs.length:Int)=aaQ c) (hv0:abB c=0) (d w:Int) (hw:0≤w∧w<c.workers) (hcc:cs.length≤cc) (h8:c.heap≤8) {B:Nat} {W:World} (hS:Sl afJ 1 W B CA cs) (hcw:CWf cs) (hc:acR W B c l) (L:List aak):adV Tryz.prog 32 #[acM c l,.slice CA cs.length cc,.int .i64 d,.int .i64 w] B W L (.tuple #[.int .i64 ((ada c cs d w).getD 0),.bool (ada c cs d w).isSome]):=by
 have hd:=hn.d
 have hlv:=hn.l
 have hww:=hn.w
 have htt:=hn.t
 have hgb:=aj5 (cs:=cs) hv0 hl hw
 obtain ⟨b1,b2⟩:=akc c cs w hlv
 have hbi:=ao4 (c:=c) (cs:=cs) (w:=w) hlv.1
 have hbl:=ajH c cs w hd.2
 refine aay Tryz.func32 rfl (m:=57) rfl (Nat.le_of_ble_eq_true rfl) (R:=[(0,acM c l),(1,.slice CA cs.length cc),(2,.int .i64 d),(3,.int .i64 w)]) (by kernel_rfl) ?_
 refine aag (aaa ?_)
 refine rtm (abX (.tmp aaf) (us:=(cfL c l)) rfl) ?_
 rintro b1
 refine rtn (aab .const).q ?_
 refine rtn (aab .const).q ?_
 refine aah (aad ?_)
 refine aag (aaa ?_)
 refine rtn (aaB (o:=0) (i:=0) (k:=11) (us:=(cfL c l)) (.tmp aaC) aaf (rfl) (by kernel_rfl) rfl rfl) ?_
 refine rtn (aac (.tmp acU)).q ?_
 refine rtn (aac (.tmp adK)).q ?_
 refine rtn (aaw (by kernel_rfl) (.cons (.tmp aaC) (.cons (.tmp aap) (.cons (.tmp aaf) .nil))) (aiE c l CA cc cs _ hv0 hn hl (by omega) (by omega) hS hcw hc _)) ?_
 refine rtn (aac (.tmp aaf)).q ?_
 refine rtn (aaA (.tmp aaf) rfl).q ?_
 refine rtn (aaA (.tmp aap) rfl).q ?_
 refine rtm (acd (v:=.agg zeL.toArray) (us:=zeL) (by kernel_rfl) rfl) ?_
 rintro b2
 refine ahi (abg (o:=0) (i:=0) (k:=23) (us:=(pcL c l CA cc cs)) (ws:=(pcL c l CA cc cs)) (.tmp aaf) (.tmp aaC) aaR (rfl) (by kernel_rfl) rfl (by decide) rfl rfl (by simp) rfl) aae (fun _ =>aa3) (fun _ =>?_)
 refine rtn (aab (.tmp aap)).q ?_
 refine aah (aad ?_)
 refine aag (aag (aaa ?_))
 refine rtn (aac (.tmp aaf)).q ?_
 refine rtn (aef (.tmp aaf)).q ?_
 refine rtn (aac (.tmp aaf)).q ?_
 refine rts (aaB (o:=0) (i:=0) (k:=11) (us:=(cfL c l)) (.tmp aew) aap (rfl) (by kernel_rfl) rfl rfl) aaf ?_
 refine rts (aaw (by kernel_rfl) (.cons (.tmp aaf) .nil) (agR c l hc _)) aap ?_
 refine rts (agZ (.tmp aaf) .const).q aaC ?_
 refine rtn (aat (b:=false) (.tmp aa1) (.tmp aaf)).q ?_
 refine aah (aad ?_)
 refine abT (.tmp aaf) (fun h3 =>?_) (fun h3 =>?_)
 ·exact absurd hv0 h3
 ·refine aaD ?_
  refine aad (aag ?_)
  refine aag (aaa ?_)
  refine rtn (aaB (o:=0) (i:=0) (k:=23) (us:=(pcL c l CA cc cs)) (.tmp adK) aaf (rfl) (by kernel_rfl) rfl rfl) ?_
  refine rtn (aac (.tmp (aar aa1))).q ?_
  refine rtm (adj (by kernel_rfl) (.cons (.tmp aap) (.cons (.tmp aaf) .nil)) (amh c l CA cc cs hn hl _ (by omega) hS hcw) .nil) ?_
  rintro ⟨A4,c4⟩
  refine rtn (aac (.tmp aaf)).q ?_
  refine rtn (aaA (.tmp aaf) rfl).q ?_
  refine rtn (aaA (.tmp aap) rfl).q ?_
  refine rtn (aab (.tmp aap)).q ?_
  refine rtn (aab (.tmp aap)).q ?_
  refine aah (aad ?_)
  refine aag (aaa ?_)
  refine rtn (aac (.tmp aaf)).q ?_
  refine rtn (acr (.tmp aaf) .const).q ?_
  refine aah (aad ?_)
  refine abT (.tmp aaf) (fun h5 =>?_) (fun h5 =>?_)
  ·refine aag (aaa ?_)
   refine rtn (aac (.tmp aa1)).q ?_
   refine rtn (aac (.tmp abk)).q ?_
   refine rtn (adq (.tmp aaf) Tryz.underlying24).q ?_
   refine rtn (ae3 (.tmp aaf) .const (w64 (by omega) (by omega))).q ?_
   refine rtn (acj (i:=(((((abw c cs w).1.length:Nat):Int)-1)).toNat) (.tmp aa1) (.tmp aaf) aaf (by omega) (by omega) (by omega) (by kernel_rfl) (Nat.mul_one _)) ?_
   refine rtn (adk (i:=(((((abw c cs w).1.length:Nat):Int)-1)).toNat) (.tmp aaf) aaf (agb (by first | omega | (simp; omega))) (by kernel_rfl)) ?_
   refine aa5 (aab (.tmp aaf)).q aae (aaj (aa0 afG) (by kernel_rfl)) ?_
   refine aa5 (aab .const).q aae (aaj (aa0 afG) (by kernel_rfl)) ?_
   refine aah (aad ?_)
   refine aaz (aao ?_)
   exact aaN rfl (.cons aap (.cons aaf .nil)) (by have hix:(((abw c cs w).1.length:Int)-1).toNat=(abw c cs w).1.length-1:=(by omega); simp only [abN,hix]; rw [aqf hgb hlv.1 (by omega) (k:=(abw c cs w).1.length-1) (by omega)]; rfl) (Ent.drop.trans (Ent.drop.trans Ent.drop))
  ·refine aaD ?_
   refine aad (aag ?_)
   refine aag (aaa ?_)
   refine rtn (aaB (o:=0) (i:=0) (k:=23) (us:=(pcL c l CA cc cs)) (.tmp aeP) aap (rfl) (by kernel_rfl) rfl rfl) ?_
   refine rtn (aaw (by kernel_rfl) (.cons (.tmp aaf) .nil) (aoE c l CA cc cs hn hl hcc h8 hS hcw _)) ?_
   refine rtn (aac (.tmp aaf)).q ?_
   refine rtn (aaA (.tmp aaf) rfl).q ?_
   refine rtn (aaA (.tmp aap) rfl).q ?_
   refine rtn (aab (.tmp aap)).q ?_
   refine rtn (aab (.tmp aap)).q ?_
   refine aah (aad ?_)
   refine aag (aaa ?_)
   refine rtn (aac (.tmp aaf)).q ?_
   refine aah (aad ?_)
   refine ajA (.tmp aaf) (fun h6 =>?_) (fun h6 =>?_)
   ·refine aag (aaa ?_)
    refine rtn (aac (.tmp aaC)).q ?_
    refine aa5 (aab (.tmp aaf)).q aae (aaj (aa0 aky) (by kernel_rfl)) ?_
    refine aa5 (aab .const).q aae (aaj (aa0 aky) (by kernel_rfl)) ?_
    refine aah (aad ?_)
    refine aaz (aao ?_)
    exact aaN rfl (.cons aap (.cons aaf .nil)) (by simp only [abN]; rw [as8 hgb hlv.1 (by omega) (by assumption)]; simp [*]) (Ent.drop.trans (Ent.drop.trans Ent.drop))
   ·refine aaD ?_
    refine aad (aag (aaa ?_))
    refine rtn (aaB (o:=0) (i:=0) (k:=23) (us:=(pcL c l CA cc cs)) (.tmp (aar adz)) aap (rfl) (by kernel_rfl) rfl rfl) ?_
    refine rtn (aac (.tmp (aar (aar aap)))).q ?_
    refine rtn (aac (.tmp (aar (aar aap)))).q ?_
    refine rtn (aaw (by kernel_rfl) (.cons (.tmp aaC) (.cons (.tmp aap) (.cons (.tmp aaf) .nil))) (aq3 c l CA cc cs hn hl _ _ hS hcw _)) ?_
    refine rtn (aaA (.tmp aaf) rfl).q ?_
    refine rtn (aaA (.tmp aap) rfl).q ?_
    refine aa5 (aab (.tmp aap)).q aae (aaj (aa0 (aa0 agv)) (by kernel_rfl)) ?_
    refine aa5 (aab (.tmp aap)).q aae (aaj (aa0 (aa0 agv)) (by kernel_rfl)) ?_
    refine aah (aad (aaz ?_))
    exact aaN rfl (.cons aap (.cons aaf .nil)) (by simp only [abN]; rw [arN hgb hww.1 hlv.1 (by omega) (by assumption)]; rfl) (Ent.drop.trans (Ent.drop.trans Ent.drop))
set_option maxRecDepth 100000 in
theorem aq8 (c:Cfg) (l:CfgAt) (CA:Option Addr) (cc:Nat) (cs:List Int) (hv0:abB c=0) (d w:Int) (hb:¬ ((cs.length:Int)=aaQ c∧0≤w∧w<c.workers)) {B:Nat} {W:World} (hS:Sl afJ 1 W B CA cs) (hcw:CWf cs) (hc:acR W B c l) (L:List aak):adV Tryz.prog 32 #[acM c l,.slice CA cs.length cc,.int .i64 d,.int .i64 w] B W L (.tuple #[.int .i64 0,.bool false]):=by
 refine aay Tryz.func32 rfl (m:=57) rfl (Nat.le_of_ble_eq_true rfl) (R:=[(0,acM c l),(1,.slice CA cs.length cc),(2,.int .i64 d),(3,.int .i64 w)]) (by kernel_rfl) ?_
 refine aag (aaa ?_)
 refine rtm (abX (.tmp aaf) (us:=(cfL c l)) rfl) ?_
 rintro b1
 refine rtn (aab .const).q ?_
 refine rtn (aab .const).q ?_
 refine aah (aad ?_)
 refine aag (aaa ?_)
 refine rtn (aaB (o:=0) (i:=0) (k:=11) (us:=(cfL c l)) (.tmp aaC) aaf (rfl) (by kernel_rfl) rfl rfl) ?_
 refine rtn (aac (.tmp acU)).q ?_
 refine rtn (aac (.tmp adK)).q ?_
 refine rtn (aaw (by kernel_rfl) (.cons (.tmp aaC) (.cons (.tmp aap) (.cons (.tmp aaf) .nil))) (ann c l CA cc cs _ hv0 (aoX (ac9 hv0)) hb hS hcw hc _)) ?_
 refine rtn (aac (.tmp aaf)).q ?_
 refine rtn (aaA (.tmp aaf) rfl).q ?_
 refine rtn (aaA (.tmp aap) rfl).q ?_
 refine rtm (acd (v:=.agg zeL.toArray) (us:=zeL) (by kernel_rfl) rfl) ?_
 rintro b2
 refine ahi (abg (o:=0) (i:=0) (k:=23) (us:=zeL) (ws:=zeL) (.tmp aaf) (.tmp aaC) aaR (rfl) (by kernel_rfl) rfl (by decide) rfl rfl (by simp) rfl) aae (fun _ =>aa3) (fun _ =>?_)
 refine rtn (aab (.tmp aap)).q ?_
 refine aah (aad ?_)
 refine aag (aag (aaa ?_))
 refine rtn (aac (.tmp aaf)).q ?_
 refine rtn (aef (.tmp aaf)).q ?_
 refine rtn (aac (.tmp aaf)).q ?_
 refine rtk aaf ?_
 refine rtk aap ?_
 refine rtk aaC ?_
 refine rtn (aat (b:=true) (.tmp aa1) .const).q ?_
 refine aah (aad ?_)
 refine acz (.tmp aaf) ?_
 refine aag (aaa ?_)
 refine aa5 (aab .const).q aae (aaj ahv (by kernel_rfl)) ?_
 refine aa5 (aab .const).q aae (aaj ahv (by kernel_rfl)) ?_
 refine aah (aad ?_)
 refine aaz (aao ?_)
 exact aaN rfl (.cons aap (.cons aaf .nil)) (by rfl) (Ent.drop.trans Ent.drop)
set_option maxRecDepth 100000 in
theorem aq7 (c:Cfg) (l:CfgAt) (CA:Option Addr) (cc:Nat) (cs:List Int) (hv0:abB c≠0) (d w:Int) {B:Nat} {W:World} (hS:Sl afJ 1 W B CA cs) (hcw:CWf cs) (hc:acR W B c l) (L:List aak):adV Tryz.prog 32 #[acM c l,.slice CA cs.length cc,.int .i64 d,.int .i64 w] B W L (.tuple #[.int .i64 0,.bool false]):=by
 refine aay Tryz.func32 rfl (m:=57) rfl (Nat.le_of_ble_eq_true rfl) (R:=[(0,acM c l),(1,.slice CA cs.length cc),(2,.int .i64 d),(3,.int .i64 w)]) (by kernel_rfl) ?_
 refine aag (aaa ?_)
 refine rtm (abX (.tmp aaf) (us:=(cfL c l)) rfl) ?_
 rintro b1
 refine rtn (aab .const).q ?_
 refine rtn (aab .const).q ?_
 refine aah (aad ?_)
 refine aag (aaa ?_)
 refine rtn (aaB (o:=0) (i:=0) (k:=11) (us:=(cfL c l)) (.tmp aaC) aaf (rfl) (by kernel_rfl) rfl rfl) ?_
 refine rtn (aac (.tmp acU)).q ?_
 refine rtn (aac (.tmp adK)).q ?_
 refine rtn (aaw (by kernel_rfl) (.cons (.tmp aaC) (.cons (.tmp aap) (.cons (.tmp aaf) .nil))) (anm c l CA cc cs _ hv0 hS hcw hc _)) ?_
 refine rtn (aac (.tmp aaf)).q ?_
 refine rtn (aaA (.tmp aaf) rfl).q ?_
 refine rtn (aaA (.tmp aap) rfl).q ?_
 refine rtm (acd (v:=.agg zeL.toArray) (us:=zeL) (by kernel_rfl) rfl) ?_
 rintro b2
 refine ahi (abg (o:=0) (i:=0) (k:=23) (us:=zeL) (ws:=zeL) (.tmp aaf) (.tmp aaC) aaR (rfl) (by kernel_rfl) rfl (by decide) rfl rfl (by simp) rfl) aae (fun _ =>aa3) (fun _ =>?_)
 refine rtn (aab (.tmp aap)).q ?_
 refine aah (aad ?_)
 refine aag (aag (aaa ?_))
 refine rtn (aac (.tmp aaf)).q ?_
 refine rtn (aef (.tmp aaf)).q ?_
 refine rtn (aac (.tmp aaf)).q ?_
 refine rtk aaf ?_
 refine rtk aap ?_
 refine rtk aaC ?_
 refine rtn (aat (b:=true) (.tmp aa1) .const).q ?_
 refine aah (aad ?_)
 refine acz (.tmp aaf) ?_
 refine aag (aaa ?_)
 refine aa5 (aab .const).q aae (aaj ahv (by kernel_rfl)) ?_
 refine aa5 (aab .const).q aae (aaj ahv (by kernel_rfl)) ?_
 refine aah (aad ?_)
 refine aaz (aao ?_)
 exact aaN rfl (.cons aap (.cons aaf .nil)) (by rfl) (Ent.drop.trans Ent.drop)
theorem aoH {c:Cfg} {cs:List Int} {w:Int} (h:¬ (abB c=0∧(cs.length:Int)=aaQ c∧0≤w∧w<c.workers)):ajw c cs w=false:=by
 cases hg:ajw c cs w with
 | false =>rfl
 | true =>exact absurd (anv hg) h
theorem alv (c:Cfg) (l:CfgAt) (CA:Option Addr) (cc:Nat) (cs:List Int) (d w:Int) {B:Nat} {W:World} (hS:Sl afJ 1 W B CA cs) (hcw:CWf cs) (hc:acR W B c l) (L:List aak):adV Tryz.prog 36 #[acM c l,.slice CA cs.length cc,.int .i64 d,.int .i64 w] B W L (.tuple #[.int .i64 ((ada c cs d w).getD 0),.bool (ada c cs d w).isSome]):=by
 by_cases h:abB c=0∧(cs.length:Int)=aaQ c∧0≤w∧w<c.workers
 ·exact apI c l CA cc cs (aoX (ac9 h.1)) h.2.1 h.1 d w h.2.2 hS hcw hc L
 ·rw [aos (aoH h)]
  exact arf c l CA cc cs d w h hS hcw hc L
theorem alp (c:Cfg) (l:CfgAt) (CA:Option Addr) (cc:Nat) (cs:List Int) (d w:Int) (hcc:cs.length≤cc) (h8:c.heap≤8) {B:Nat} {W:World} (hS:Sl afJ 1 W B CA cs) (hcw:CWf cs) (hc:acR W B c l) (L:List aak):adV Tryz.prog 32 #[acM c l,.slice CA cs.length cc,.int .i64 d,.int .i64 w] B W L (.tuple #[.int .i64 ((ada c cs d w).getD 0),.bool (ada c cs d w).isSome]):=by
 by_cases h0:abB c=0
 ·by_cases h:(cs.length:Int)=aaQ c∧0≤w∧w<c.workers
  ·exact aps c l CA cc cs (aoX (ac9 h0)) h.1 h0 d w h.2 hcc h8 hS hcw hc L
  ·rw [aos (aoH (by omega))]
   exact aq8 c l CA cc cs h0 d w h hS hcw hc L
 ·rw [aos (aoH (by omega))]
  exact aq7 c l CA cc cs h0 d w hS hcw hc L
end
section
open Go Go.RowKit
variable [Tb]
def cwB (cs:List Int):Bool:=cs.all fun x =>decide (0≤x) && decide (x≤18446744073709551615)
theorem az0 {cs:List Int} (h:cwB cs=true):CWf cs:=fun i =>by
 unfold gi
 by_cases hi:i<cs.length
 ·have h1:=List.all_eq_true.1 h cs[i] (List.getElem_mem hi)
  simp only [Bool.and_eq_true,decide_eq_true_eq] at h1
  rw [List.getD_eq_getElem?_getD,List.getElem?_eq_getElem hi]
  exact h1
 ·rw [List.getD_eq_getElem?_getD,List.getElem?_eq_none (by omega)]
  exact ⟨by decide,by decide⟩
def snB (c:Cfg) (cs:List Int):Bool:=cwB cs && decide (c.heap≤8)
theorem asF {c:Cfg} {cs:List Int} (h:snB c cs=true):CWf cs∧c.heap≤8:=by
 unfold snB at h
 simp only [Bool.and_eq_true,decide_eq_true_eq] at h
 exact ⟨az0 h.1,h.2⟩
noncomputable def adW (c:Cfg) (cs:List Int) (d w:Int):Option ((Int×Bool×Unit)×(List Int×Unit)):=if snB c cs=true then some (((ada c cs d w).getD 0,(ada c cs d w).isSome,()),(cs,())) else none
noncomputable abbrev ajQ:Con SR1:=⟨32,[.val 13,.lent 0,.sh sI_,.sh sI_],[.sh sI_,.sh .b],fun x =>adW x.1 x.2.1 x.2.2.1 x.2.2.2.1⟩
noncomputable def afk (c:Cfg) (cs:List Int) (d w:Int):Option ((Int×Bool×Unit)×Unit):=if snB c cs=true then some (((ada c cs d w).getD 0,(ada c cs d w).isSome,()),()) else none
noncomputable abbrev alm:Con SR1:=⟨32,[.val 13,.sh (.ro 0),.sh sI_,.sh sI_],[.sh sI_,.sh .b],fun x =>afk x.1 x.2.1 x.2.2.1 x.2.2.2.1⟩
noncomputable abbrev agp:=adW
noncomputable abbrev ahk:=afk
noncomputable abbrev aiX:Con SR1:=⟨36,[.val 13,.lent 0,.sh sI_,.sh sI_],[.sh sI_,.sh .b],fun x =>agp x.1 x.2.1 x.2.2.1 x.2.2.2.1⟩
noncomputable abbrev aii:Con SR1:=⟨36,[.val 13,.sh (.ro 0),.sh sI_,.sh sI_],[.sh sI_,.sh .b],fun x =>ahk x.1 x.2.1 x.2.2.1 x.2.2.2.1⟩
noncomputable def agn (c:Cfg) (cs:List Int) (w l:Int):Option ((List Int×Unit)×(List Int×Unit)):=if snB c cs=true then some ((abz c cs w l,()),(cs,())) else none
noncomputable abbrev alo:Con SR1:=⟨35,[.val 13,.lent 0,.sh sI_,.sh sI_],[.sh (.row 1)],fun x =>agn x.1 x.2.1 x.2.2.1 x.2.2.2.1⟩
noncomputable def agm (c:Cfg) (cs:List Int) (w l:Int):Option ((List Int×Unit)×Unit):=if snB c cs=true then some ((abz c cs w l,()),()) else none
noncomputable abbrev amR:Con SR1:=⟨35,[.val 13,.sh (.ro 0),.sh sI_,.sh sI_],[.sh (.row 1)],fun x =>agm x.1 x.2.1 x.2.2.1 x.2.2.2.1⟩
noncomputable abbrev ahP:=agn
noncomputable abbrev aiw:=agm
noncomputable abbrev ako:Con SR1:=⟨37,[.val 13,.lent 0,.sh sI_,.sh sI_],[.sh (.row 1)],fun x =>ahP x.1 x.2.1 x.2.2.1 x.2.2.2.1⟩
noncomputable abbrev aiY:Con SR1:=⟨37,[.val 13,.sh (.ro 0),.sh sI_,.sh sI_],[.sh (.row 1)],fun x =>aiw x.1 x.2.1 x.2.2.1 x.2.2.2.1⟩
theorem asH {B:Nat} {w:World} {xs:List Int} {v:Value} {L:List aak} (s:Sat B w (pcS SR1.kt (.row 0 xs) v::L)):∃ A cap,v=.slice A xs.length cap∧Sl afJ 1 w w.heap.size A xs∧xs.length≤cap:=by
 obtain ⟨hh,Hh,k1,k2,ka,ke,h1,hF⟩:=s
 rw [aa6] at h1
 obtain ⟨A,cap,e,hr⟩:=h1
 have s1:Sat B w (rwS SR1.kt 0 xs A cap::L):=⟨hh,Hh,k1,k2,ka,ke,hr,hF⟩
 have h2:=anU (apz (K:=SR1.kt) (c:=0) rfl (by decide) s1) List.mem_cons_self
 exact ⟨A,cap,e,h2.1,h2.2⟩
theorem avB {B:Nat} {w:World} {xs:List Int} {v:Value} {L:List aak} (s:Sat B w (pcS SR1.kt (.ro 0 xs) v::L)):∃ A cap,v=.slice A xs.length cap∧Sl afJ 1 w w.heap.size A xs∧xs.length≤cap:=by
 obtain ⟨hh,Hh,k1,k2,ka,ke,h1,hF⟩:=s
 rw [aa6] at h1
 obtain ⟨A,cap,e,hr⟩:=h1
 have s1:Sat B w (roS (aex SR1.kt 0) (SR1.kt.sz 0) A cap xs::L):=⟨hh,Hh,k1,k2,ka,ke,hr,hF⟩
 have h2:=anU s1 List.mem_cons_self
 exact ⟨A,cap,e,h2.1,h2.2⟩
theorem at3 {B:Nat} {w w':World} {L:List aak} {A:Option Addr} {m c sz:Nat} {us:List Value} {F:aak} (s:Sat B w L) (hB:B≤w.heap.size) (hb:Below w.heap.size w w') (h:Sat w.heap.size w' (abA A m c sz us::[F])):Sat B w' (abA A m c sz us::L):=by
 obtain ⟨k1,H1,q1,q2,aq,e2,hr,_⟩:=h
 obtain ⟨k2,H2,hs2⟩:=s
 have hr':=amX hr
 have H3:∀ b o y,aa2 q1 b o=some y→k1 b o=some y∧∃ v,y=.cell v:=fun b o y hy =>by
  unfold aa2 at hy
  split at hy
  ·rename_i u hq
   cases hy
   exact ⟨by rw [e2]; unfold acI; rw [hq],u,rfl⟩
  ·cases hy
 have lo:∀ b o y,aa2 q1 b o=some y→w.heap.size≤b:=fun b o y hy =>by
  obtain ⟨h4,u,rfl⟩:=H3 b o y hy
  exact (H1 b o _ h4).1.resolve_right (fun hl =>hl.elim)
 have hap:apart (aa2 q1) k2:=fun b o =>by
  cases e3:aa2 q1 b o with
  | none =>exact .inl rfl
  | some y =>
   cases e4:k2 b o with
   | none =>exact .inr (.inl rfl)
   | some z =>
    exfalso
    have a1:=lo b o y e3
    have a2:=(H2 b o z e4).2.lt
    omega
 refine ⟨acI (aa2 q1) k2,fun b o y hy =>?_,aa2 q1,k2,hap,rfl,hr',hs2⟩
 unfold acI at hy
 cases e3:aa2 q1 b o with
 | some z =>
  rw [e3] at hy
  obtain rfl:=Option.some.inj hy
  have a1:=H1 b o z (H3 b o z e3).1
  exact ⟨.inl (Nat.le_trans hB (lo b o z e3)),a1.2⟩
 | none =>
  rw [e3] at hy
  have a2:=H2 b o y hy
  exact ⟨a2.1,a2.2.same (hb.block _ a2.2.lt)⟩
theorem aBs {B:Nat} {w:World} {L:List aak} {A:Option Addr} {cap:Nat} {xs:List Int} (s:Sat B w (abA A xs.length cap 1 (xs.map (Value.int .i64))::L)):Sat B w (pcS SR1.kt (.row 1 xs) (.slice A xs.length cap)::L) :=
 have e:(xs.flatMap fun x =>[Value.int .i64 x])=xs.map (Value.int .i64):=(List.map_eq_flatMap ..).symm
 anS (S:=SR1) (c:=1) (fun _ =>rfl) (show Sat B w (abA A xs.length cap 1 (xs.flatMap fun x =>[Value.int .i64 x])::L) by rw [e]; exact s)
theorem azN {L:List aak} {h:Hp} (s:ab0 L h) (hm:(fun _ =>False)∈L):False:=by
 induction L generalizing h with
 | nil =>cases hm
 | cons A L ih =>
  obtain ⟨_,_,_,_,h1,h2⟩:=s
  rcases List.mem_cons.1 hm with e | e
  ·rw [← e] at h1; exact h1
  ·exact ih h2 e
theorem ajZ {S:Shp}:∀ (ps:List Pk) (x:aqQ S ps) (vs:List Value),vs.length≠ps.length→(fun _ =>False)∈amo S ps x vs
 | [],_,[],h =>absurd rfl h
 | [],_,_::_,_ =>List.mem_singleton.2 rfl
 | .sh _::_,_,[],_ =>List.mem_singleton.2 rfl
 | .val _::_,_,[],_ =>List.mem_singleton.2 rfl
 | .ref _::_,_,[],_ =>List.mem_singleton.2 rfl
 | .mch::_,_,[],_ =>List.mem_singleton.2 rfl
 | .lent _::_,_,[],_ =>List.mem_singleton.2 rfl
 | .sh _::ps,x,_::vs,h =>List.mem_cons_of_mem _ (ajZ ps x.2 vs fun e =>h (congrArg (·+1) e))
 | .val _::ps,x,_::vs,h =>List.mem_cons_of_mem _ (ajZ ps x.2 vs fun e =>h (congrArg (·+1) e))
 | .ref _::ps,x,_::vs,h =>List.mem_cons_of_mem _ (ajZ ps x.2 vs fun e =>h (congrArg (·+1) e))
 | .mch::ps,x,_::vs,h =>List.mem_cons_of_mem _ (ajZ ps x.2 vs fun e =>h (congrArg (·+1) e))
 | .lent _::ps,x,_::vs,h =>List.mem_cons_of_mem _ (ajZ ps x.2 vs fun e =>h (congrArg (·+1) e))
theorem aCh {α:Type}:∀ {l:List α},l.length=4→∃ a b c d,l=[a,b,c,d]
 | [a,b,c,d],_ =>⟨a,b,c,d,rfl⟩
theorem akV {ps:List Pk} {x:aqQ SR1 ps} {vs:List Value} {B:Nat} {w:World} {F:aak} (s:Sat B w (amo SR1 ps x vs++[F])) (h:ps.length=4):∃ a b c d,vs=[a,b,c,d]:=by
 refine aCh (Decidable.byContradiction fun hn =>?_)
 obtain ⟨k,_,hs⟩:=s
 exact azN hs (List.mem_append_left _ (ajZ ps x vs (by omega)))
abbrev aEv (B:Nat) (w:World) (R:aak) (cs:List Int) (v:Value):Prop:=∀ L,Sat B w (R::L)→∃ A cap,v=.slice A cs.length cap∧Sl afJ 1 w w.heap.size A cs∧cs.length≤cap
section
variable {f:FuncId} {c:Cfg} {cs:List Int} {d i:Int} {B:Nat} {w W:World} {v1 v2 v3 v4:Value} {R F:aak}
theorem aqe (hf:Nat.blt f ae8=true) (h:∀ (c:Cfg) (l:CfgAt) (CA:Option Addr) (cc:Nat) (cs:List Int) (d w:Int),cs.length≤cc→c.heap≤8→∀ {B:Nat} {W:World},Sl afJ 1 W B CA cs→CWf cs→acR W B c l→∀ L,adV Tryz.prog f #[acM c l,.slice CA cs.length cc,.int .i64 d,.int .i64 w] B W L (.tuple #[.int .i64 ((ada c cs d w).getD 0),.bool (ada c cs d w).isSome]))
  (hn:snB c cs=true) (hb:Below B W w) (hB:B≤w.heap.size) (s:Sat B w (ayp SR1 13 c v1::R::pcS SR1.kt (.i .i64 d) v3::pcS SR1.kt (.i .i64 i) v4::[F])) (hR:aEv B w R cs v2) :
  agh Tryz.prog f #[v1,v2,v3,v4] w fun e w' =>∃ us,e=.returned (abN us)∧∃ a b,us=[a,b]∧Cls B W (pcS SR1.kt (.i .i64 ((ada c cs d i).getD 0)) a::pcS SR1.kt (.b (ada c cs d i).isSome) b::R::[F]) w':=by
 rw [aeT hf]
 obtain ⟨hcw,h8⟩:=asF hn
 obtain ⟨p,rfl,hp,s1⟩:=avF s
 obtain ⟨A,cap,rfl,hA,hcc⟩:=hR _ s1
 have s2:Sat B w (pcS SR1.kt (.i .i64 d) v3::pcS SR1.kt (.i .i64 i) v4::R::[F]):=s1.perm (List.perm_middle (l₁:=[_,_])).symm
 obtain ⟨rfl,s3⟩:=avD (S:=SR1) s2
 obtain ⟨rfl,s4⟩:=avD (S:=SR1) s3
 refine (h c p A cap cs d i hcc h8 hA hcw hp [] w ⟨Below.refl _ _,Nat.le_refl _,⟨fun _ _ =>none,(fun _ _ _ (e:none=some _) =>by cases e),trivial⟩⟩).mono fun e w' ⟨he,hb',_,_⟩ =>⟨[.int .i64 ((ada c cs d i).getD 0),.bool (ada c cs d i).isSome],he,_,_,rfl,hb.trans (hb'.mono hB),Nat.le_trans hB hb'.size,?_⟩
 exact aAr (S:=SR1) (aDp (S:=SR1) (s4.below hb'))
theorem att (hf:Nat.blt f ae8=true) (h:∀ (c:Cfg) (l:CfgAt) (CA:Option Addr) (cc:Nat) (cs:List Int) (w v:Int) {B:Nat} {W:World},Sl afJ 1 W B CA cs→CWf cs→acR W B c l→Fn_ Tryz.prog f #[acM c l,.slice CA cs.length cc,.int .i64 w,.int .i64 v] B W [] (X:=Option Addr×Nat) (fun p =>.slice p.1 (abz c cs w v).length p.2) (fun p =>[abA p.1 (abz c cs w v).length p.2 1 ((abz c cs w v).map (Value.int .i64))]))
  (hn:snB c cs=true) (hb:Below B W w) (hB:B≤w.heap.size) (s:Sat B w (ayp SR1 13 c v1::R::pcS SR1.kt (.i .i64 d) v3::pcS SR1.kt (.i .i64 i) v4::[F])) (hR:aEv B w R cs v2) :
  agh Tryz.prog f #[v1,v2,v3,v4] w fun e w' =>∃ us,e=.returned (abN us)∧∃ a,us=[a]∧Cls B W (pcS SR1.kt (.row 1 (abz c cs d i)) a::R::[F]) w':=by
 rw [aeT hf]
 obtain ⟨hcw,h8⟩:=asF hn
 obtain ⟨p,rfl,hp,s1⟩:=avF s
 obtain ⟨A,cap,rfl,hA,hcc⟩:=hR _ s1
 have s2:Sat B w (pcS SR1.kt (.i .i64 d) v3::pcS SR1.kt (.i .i64 i) v4::R::[F]):=s1.perm (List.perm_middle (l₁:=[_,_])).symm
 obtain ⟨rfl,s3⟩:=avD (S:=SR1) s2
 obtain ⟨rfl,s4⟩:=avD (S:=SR1) s3
 refine (h c p A cap cs d i hA hcw hp (fun _ =>True) w ⟨Below.refl _ _,Nat.le_refl _,⟨fun _ _ =>none,(fun _ _ _ (e:none=some _) =>by cases e),fun _ _ =>none,fun _ _ =>none,fun _ _ =>.inl rfl,rfl,trivial,trivial⟩⟩).mono fun e w' ⟨x,he,hb',_,hs'⟩ =>⟨[.slice x.1 (abz c cs d i).length x.2],he,_,rfl,hb.trans (hb'.mono hB),Nat.le_trans hB hb'.size,?_⟩
 exact aBs (at3 s4 hB hb' hs')
end
theorem atA {f:FuncId} (hf:Nat.blt f ae8=true) (h:∀ (c:Cfg) (l:CfgAt) (CA:Option Addr) (cc:Nat) (cs:List Int) (d w:Int),cs.length≤cc→c.heap≤8→∀ {B:Nat} {W:World},Sl afJ 1 W B CA cs→CWf cs→acR W B c l→∀ L,adV Tryz.prog f #[acM c l,.slice CA cs.length cc,.int .i64 d,.int .i64 w] B W L (.tuple #[.int .i64 ((ada c cs d w).getD 0),.bool (ada c cs d w).isSome])):CO Tryz.prog (⟨f,[.val 13,.lent 0,.sh sI_,.sh sI_],[.sh sI_,.sh .b],fun x =>adW x.1 x.2.1 x.2.2.1 x.2.2.2.1⟩:Con SR1):=fun x out hx B W hg vs F w ⟨hb,hB,hs⟩ =>by
 obtain ⟨v1,v2,v3,v4,rfl⟩:=akV hs rfl
 replace hx:adW x.1 x.2.1 x.2.2.1 x.2.2.2.1=some out:=hx
 unfold adW at hx
 split at hx
 case isFalse =>cases hx
 rename_i hn
 obtain rfl:=Option.some.inj hx
 exact (aqe hf h hn hb hB (R:=pcS SR1.kt (.row 0 x.2.1) v2) hs fun L s =>asH s).mono fun e w' ⟨us,he,a,b,e2,hc⟩ =>⟨us,he,by subst e2; exact hc⟩
theorem atz {f:FuncId} (hf:Nat.blt f ae8=true) (h:∀ (c:Cfg) (l:CfgAt) (CA:Option Addr) (cc:Nat) (cs:List Int) (d w:Int),cs.length≤cc→c.heap≤8→∀ {B:Nat} {W:World},Sl afJ 1 W B CA cs→CWf cs→acR W B c l→∀ L,adV Tryz.prog f #[acM c l,.slice CA cs.length cc,.int .i64 d,.int .i64 w] B W L (.tuple #[.int .i64 ((ada c cs d w).getD 0),.bool (ada c cs d w).isSome])):CO Tryz.prog (⟨f,[.val 13,.sh (.ro 0),.sh sI_,.sh sI_],[.sh sI_,.sh .b],fun x =>afk x.1 x.2.1 x.2.2.1 x.2.2.2.1⟩:Con SR1):=fun x out hx B W hg vs F w ⟨hb,hB,hs⟩ =>by
 obtain ⟨v1,v2,v3,v4,rfl⟩:=akV hs rfl
 replace hx:afk x.1 x.2.1 x.2.2.1 x.2.2.2.1=some out:=hx
 unfold afk at hx
 split at hx
 case isFalse =>cases hx
 rename_i hn
 obtain rfl:=Option.some.inj hx
 exact (aqe hf h hn hb hB (R:=pcS SR1.kt (.ro 0 x.2.1) v2) hs fun L s =>avB s).mono fun e w' ⟨us,he,a,b,e2,hc⟩ =>⟨us,he,by subst e2; exact ⟨hc.1,hc.2.1,(hc.2.2.perm (List.perm_middle (l₁:=[_,_]))).drop⟩⟩
theorem axK {f:FuncId} (hf:Nat.blt f ae8=true) (h:∀ (c:Cfg) (l:CfgAt) (CA:Option Addr) (cc:Nat) (cs:List Int) (w v:Int) {B:Nat} {W:World},Sl afJ 1 W B CA cs→CWf cs→acR W B c l→Fn_ Tryz.prog f #[acM c l,.slice CA cs.length cc,.int .i64 w,.int .i64 v] B W [] (X:=Option Addr×Nat) (fun p =>.slice p.1 (abz c cs w v).length p.2) (fun p =>[abA p.1 (abz c cs w v).length p.2 1 ((abz c cs w v).map (Value.int .i64))])):CO Tryz.prog (⟨f,[.val 13,.lent 0,.sh sI_,.sh sI_],[.sh (.row 1)],fun x =>agn x.1 x.2.1 x.2.2.1 x.2.2.2.1⟩:Con SR1):=fun x out hx B W hg vs F w ⟨hb,hB,hs⟩ =>by
 obtain ⟨v1,v2,v3,v4,rfl⟩:=akV hs rfl
 replace hx:agn x.1 x.2.1 x.2.2.1 x.2.2.2.1=some out:=hx
 unfold agn at hx
 split at hx
 case isFalse =>cases hx
 rename_i hn
 obtain rfl:=Option.some.inj hx
 exact (att hf h hn hb hB (R:=pcS SR1.kt (.row 0 x.2.1) v2) hs fun L s =>asH s).mono fun e w' ⟨us,he,a,e2,hc⟩ =>⟨us,he,by subst e2; exact hc⟩
theorem axJ {f:FuncId} (hf:Nat.blt f ae8=true) (h:∀ (c:Cfg) (l:CfgAt) (CA:Option Addr) (cc:Nat) (cs:List Int) (w v:Int) {B:Nat} {W:World},Sl afJ 1 W B CA cs→CWf cs→acR W B c l→Fn_ Tryz.prog f #[acM c l,.slice CA cs.length cc,.int .i64 w,.int .i64 v] B W [] (X:=Option Addr×Nat) (fun p =>.slice p.1 (abz c cs w v).length p.2) (fun p =>[abA p.1 (abz c cs w v).length p.2 1 ((abz c cs w v).map (Value.int .i64))])):CO Tryz.prog (⟨f,[.val 13,.sh (.ro 0),.sh sI_,.sh sI_],[.sh (.row 1)],fun x =>agm x.1 x.2.1 x.2.2.1 x.2.2.2.1⟩:Con SR1):=fun x out hx B W hg vs F w ⟨hb,hB,hs⟩ =>by
 obtain ⟨v1,v2,v3,v4,rfl⟩:=akV hs rfl
 replace hx:agm x.1 x.2.1 x.2.2.1 x.2.2.2.1=some out:=hx
 unfold agm at hx
 split at hx
 case isFalse =>cases hx
 rename_i hn
 obtain rfl:=Option.some.inj hx
 exact (att hf h hn hb hB (R:=pcS SR1.kt (.ro 0 x.2.1) v2) hs fun L s =>avB s).mono fun e w' ⟨us,he,a,e2,hc⟩ =>⟨us,he,by subst e2; exact ⟨hc.1,hc.2.1,(hc.2.2.perm (List.perm_middle (l₁:=[_]))).drop⟩⟩
theorem alj:CO Tryz.prog ajQ:=atA (by kernel_rfl) (fun c l CA cc cs d w hcc h8 _ _ hS hcw hc L =>alp c l CA cc cs d w hcc h8 hS hcw hc L)
theorem apr:CO Tryz.prog alm:=atz (by kernel_rfl) (fun c l CA cc cs d w hcc h8 _ _ hS hcw hc L =>alp c l CA cc cs d w hcc h8 hS hcw hc L)
theorem amv:CO Tryz.prog aiX:=atA (by kernel_rfl) (fun c l CA cc cs d w _ _ _ _ hS hcw hc L =>alv c l CA cc cs d w hS hcw hc L)
theorem alu:CO Tryz.prog aii:=atz (by kernel_rfl) (fun c l CA cc cs d w _ _ _ _ hS hcw hc L =>alv c l CA cc cs d w hS hcw hc L)
theorem amQ:CO Tryz.prog alo:=axK (by kernel_rfl) (fun c l CA cc cs w v _ _ hS hcw hc =>aih c l CA cc cs w v hS hcw hc)
theorem aq6:CO Tryz.prog amR:=axJ (by kernel_rfl) (fun c l CA cc cs w v _ _ hS hcw hc =>aih c l CA cc cs w v hS hcw hc)
theorem anY:CO Tryz.prog ako:=axK (by kernel_rfl) (fun c l CA cc cs w v _ _ hS hcw hc =>aik c l CA cc cs w v hS hcw hc)
theorem amw:CO Tryz.prog aiY:=axJ (by kernel_rfl) (fun c l CA cc cs w v _ _ hS hcw hc =>aik c l CA cc cs w v hS hcw hc)
end
section
open Go Go.RowKit
set_option maxRecDepth 100000
variable [Tb]
abbrev cg9 {α:Type} (c:Cfg) (x:Option α):Option α:=if c.workers=c.workers then (if c.levels=c.levels then (if c.classes=c.classes then (if c.tasks=c.tasks then (if c.deque=c.deque then (if c.heap=c.heap then (if c.batch=c.batch then (if c.age=c.age then (if c.patience=c.patience then x else none) else none) else none) else none) else none) else none) else none) else none) else none
theorem azD {α β:Type} {c:Prop} [Decidable c] (A:Option α) (K:α→Option β):(if c then A else none).bind K=if c then A.bind K else none:=by split<;>rfl
theorem aAU {α:Type} (c:Cfg) (x:Option α):cg9 c x=x:=by simp only [cg9,if_true]
noncomputable def ab3 (y0:List Int) (y1:List Int):Option ((Bool×Unit)×(Unit)) :=
 if ((y0.length:Nat):Int)≠((y1.length:Nat):Int) then
  some ((false,()),())
 else
 (lpF (σ:=Int×Unit) (β:=(Int×Unit)⊕((Bool×Unit)×(Unit))) (fun self3 x1 =>
  if x1.1<((y0.length:Nat):Int) then
   if 0≤x1.1∧x1.1<((y0.length:Nat):Int) then
   if 0≤x1.1∧x1.1<((y1.length:Nat):Int) then
   if (au9 y0 x1.1)≠(au9 y1 x1.1) then
   Option.map Sum.inr (
   some ((false,()),())
   )
   else
   self3 (wi (x1.1+1),())
   else none
   else none
  else
  some (Sum.inl (x1.1,()))
 ) 18446744073709551616 (0,())).bind fun z2 =>match z2 with
 | .inr o4 =>some o4
 | .inl z2 =>
 some ((true,()),())
noncomputable abbrev adM:Con SR1:=⟨34,[.sh (.ro 1),.sh (.ro 1)],[.sh .b],fun x =>ab3 x.1 x.2.1⟩
theorem aeH:CO Tryz.prog adM:=abc abb Tryz.func34 [] trivial [] trivial (fun _ =>[]) [(4,.loopR [.rg 5 sI_] 18446744073709551616 0)] fun x =>by kernel_rfl
noncomputable def afi (y0:Int):Option ((Cfg×Unit)×(Unit)) :=
 (alV ([])).bind fun r1 =>
 some ((({ r1.1.1 with workers:=y0,levels:=2,tasks:=6,deque:=4,heap:=4,batch:=2 }:Cfg),()),())
noncomputable abbrev aeI:Con SR1:=⟨30,[.sh sI_],[.val 13],fun x =>afi x.1⟩
theorem ag3:CO Tryz.prog aeI:=abc abb Tryz.func30 [alU] ⟨ans,trivial⟩ [] trivial (fun _ =>[]) [] fun x =>by kernel_rfl
noncomputable def adN (y0:Cfg) (y1:List Int) (y2:List Int):Option ((List Int×Unit)×(Unit)) :=
 (aiB y0).bind fun r1 =>
 if r1.1.1=r1.1.1 then
  if 0≤r1.1.1∧r1.1.1≤1099511627776 then
   (lpF (σ:=Int×List Int×Unit) (β:=Int×List Int×Unit) (fun self4 x2 =>
   if x2.1<((y1.length:Nat):Int) then
   if x2.1<40 then
   if 0≤x2.1∧x2.1<((y1.length:Nat):Int) then
   ((
   if y0.workers≠0 then
   if y0.levels≠0 then
   agr (
   (aes y0 (Int.tmod (wi (adm y1 x2.1)) y0.workers) (Int.tmod (wi (Int.tdiv (wi (adm y1 x2.1)) 4)) y0.levels)).bind fun r6 =>
   if y0.levels=y0.levels then
   if y0.workers=y0.workers then
   cg9 y0 (
   some (r6.1.1,())
   )
   else none
   else none
   ) (
   if y0.levels=y0.levels then
   if y0.workers=y0.workers then
   cg9 y0 (
   (aes y0 (Int.tmod (wi (adm y1 x2.1)) y0.workers) (Int.tmod (wi (Int.tdiv (wi (adm y1 x2.1)) 4)) y0.levels)).bind fun r5 =>
   some (r5.1.1,())
   )
   else none
   else none
   )
   else none
   else none
   ):Option (QV×Unit)).bind fun z7 =>
   if 0≤z7.1.bottom∧z7.1.bottom<((x2.2.1.length:Nat):Int) then
   if 0≤z7.1.top∧z7.1.top<((x2.2.1.length:Nat):Int) then
   if y0.deque=y0.deque then
   if (wi (wu ((aeG x2.2.1 z7.1.bottom)-(aeG x2.2.1 z7.1.top))))<y0.deque then
   if y0.tasks≠0 then
   if z7.1.cap<1 then
   if y0.tasks=y0.tasks then
   if 0≤(-1:Int)∧(-1:Int)<((x2.2.1.length:Nat):Int) then
   if 0≤z7.1.bottom∧z7.1.bottom<(((x2.2.1.set (-1:Int).toNat (wu ((Int.tmod (wi (Int.tdiv (wi (adm y1 x2.1)) 8)) y0.tasks)))).length:Nat):Int) then
   self4 (wi (x2.1+1),(x2.2.1.set (-1:Int).toNat (wu ((Int.tmod (wi (Int.tdiv (wi (adm y1 x2.1)) 8)) y0.tasks)))).set z7.1.bottom.toNat (wu ((aeG x2.2.1 z7.1.bottom)+1)),())
   else none
   else none
   else none
   else
   if (wu (z7.1.cap))≠0 then
   if y0.tasks=y0.tasks then
   if 0≤wi (z7.1.ring+(wi ((Int.tmod (aeG x2.2.1 z7.1.bottom) (wu (z7.1.cap))))))∧wi (z7.1.ring+(wi ((Int.tmod (aeG x2.2.1 z7.1.bottom) (wu (z7.1.cap))))))<((x2.2.1.length:Nat):Int) then
   if 0≤z7.1.bottom∧z7.1.bottom<(((x2.2.1.set (wi (z7.1.ring+(wi ((Int.tmod (aeG x2.2.1 z7.1.bottom) (wu (z7.1.cap))))))).toNat (wu ((Int.tmod (wi (Int.tdiv (wi (adm y1 x2.1)) 8)) y0.tasks)))).length:Nat):Int) then
   self4 (wi (x2.1+1),(x2.2.1.set (wi (z7.1.ring+(wi ((Int.tmod (aeG x2.2.1 z7.1.bottom) (wu (z7.1.cap))))))).toNat (wu ((Int.tmod (wi (Int.tdiv (wi (adm y1 x2.1)) 8)) y0.tasks)))).set z7.1.bottom.toNat (wu ((aeG x2.2.1 z7.1.bottom)+1)),())
   else none
   else none
   else none
   else none
   else none
   else
   self4 (wi (x2.1+1),x2.2.1,())
   else none
   else none
   else none
   else none
   else
   some (x2.1,x2.2.1,())
   else
   some (x2.1,x2.2.1,())
   ) 18446744073709551616 (0,List.replicate (r1.1.1:Int).toNat (0:Int),())).bind fun z3 =>
   (lpF (σ:=Int×List Int×Unit) (β:=Int×List Int×Unit) (fun self10 x8 =>
   if x8.1<y0.tasks then
   (ac6 y0 x8.1).bind fun r11 =>
   if 0≤r11.1.1∧r11.1.1<((x8.2.1.length:Nat):Int) then
   if x8.1<((y2.length:Nat):Int) then
   if 0≤x8.1∧x8.1<((y2.length:Nat):Int) then
   (ac6 y0 x8.1).bind fun r12 =>
   if (adm y2 x8.1)=(adm y2 x8.1) then
   if 0≤r12.1.1∧r12.1.1<(((x8.2.1.set r11.1.1.toNat 1).length:Nat):Int) then
   self10 (wi (x8.1+1),(x8.2.1.set r11.1.1.toNat 1).set r12.1.1.toNat (wu ((Int.tmod (adm y2 x8.1) 5))),())
   else none
   else none
   else none
   else
   self10 (wi (x8.1+1),x8.2.1.set r11.1.1.toNat 1,())
   else none
   else
   some (x8.1,x8.2.1,())
   ) 18446744073709551616 (0,z3.2.1,())).bind fun z9 =>
   some ((z9.2.1,()),())
  else none
 else none
noncomputable abbrev aen:Con SR1:=⟨31,[.val 13,.sh (.ro 17),.sh (.ro 17)],[.sh (.row 0)],fun x =>adN x.1 x.2.1 x.2.2.1⟩
noncomputable def agi:List (Nat×Func):=[(69,Tryz.f69),(70,Tryz.f70)]
theorem agj:CO Tryz.prog aen:=abc abb Tryz.func31 [alE,ajc,adR] ⟨anc,ajV,adC,trivial⟩ agi ⟨Tryz.func69,Tryz.func70,trivial⟩ (fun _ =>[]) [(3,.loop [.rg 8 sI_,.rg 7 (.row 0)] 18446744073709551616 0),(7,.cut [.rg 10 (.own 14)] [9,10,11,12,17,18]),(12,.loop [.rg 12 sI_,.rg 7 (.row 0)] 18446744073709551616 2)] fun x =>by kernel_rfl
noncomputable def adi (y0:Cfg) (y1:List Int) (y2:List Int):Option ((List Int×Unit)×(Unit)) :=
 (aiB y0).bind fun r1 =>
 if 0≤r1.1.1∧r1.1.1≤1099511627776 then
  (lpF (σ:=Int×List Int×Unit) (β:=Int×List Int×Unit) (fun self4 x2 =>
   if x2.1<((y1.length:Nat):Int) then
   if x2.1<40 then
   if 0≤x2.1∧x2.1<((y1.length:Nat):Int) then
   if y0.workers≠0 then
   if y0.levels≠0 then
   (aes y0 (Int.tmod (wi (adm y1 x2.1)) y0.workers) (Int.tmod (wi (Int.tdiv (wi (adm y1 x2.1)) 4)) y0.levels)).bind fun r5 =>
   if 0≤r5.1.1.bottom∧r5.1.1.bottom<((x2.2.1.length:Nat):Int) then
   if 0≤r5.1.1.top∧r5.1.1.top<((x2.2.1.length:Nat):Int) then
   if (wi (wu ((aeG x2.2.1 r5.1.1.bottom)-(aeG x2.2.1 r5.1.1.top))))<y0.deque then
   if y0.tasks≠0 then
   if r5.1.1.cap<1 then
   if 0≤(-1:Int)∧(-1:Int)<((x2.2.1.length:Nat):Int) then
   if 0≤r5.1.1.bottom∧r5.1.1.bottom<(((x2.2.1.set (-1:Int).toNat (wu ((Int.tmod (wi (Int.tdiv (wi (adm y1 x2.1)) 8)) y0.tasks)))).length:Nat):Int) then
   self4 (wi (x2.1+1),(x2.2.1.set (-1:Int).toNat (wu ((Int.tmod (wi (Int.tdiv (wi (adm y1 x2.1)) 8)) y0.tasks)))).set r5.1.1.bottom.toNat (wu ((aeG x2.2.1 r5.1.1.bottom)+1)),())
   else none
   else none
   else
   if (wu (r5.1.1.cap))≠0 then
   if 0≤wi (r5.1.1.ring+(wi ((Int.tmod (aeG x2.2.1 r5.1.1.bottom) (wu (r5.1.1.cap))))))∧wi (r5.1.1.ring+(wi ((Int.tmod (aeG x2.2.1 r5.1.1.bottom) (wu (r5.1.1.cap))))))<((x2.2.1.length:Nat):Int) then
   if 0≤r5.1.1.bottom∧r5.1.1.bottom<(((x2.2.1.set (wi (r5.1.1.ring+(wi ((Int.tmod (aeG x2.2.1 r5.1.1.bottom) (wu (r5.1.1.cap))))))).toNat (wu ((Int.tmod (wi (Int.tdiv (wi (adm y1 x2.1)) 8)) y0.tasks)))).length:Nat):Int) then
   self4 (wi (x2.1+1),(x2.2.1.set (wi (r5.1.1.ring+(wi ((Int.tmod (aeG x2.2.1 r5.1.1.bottom) (wu (r5.1.1.cap))))))).toNat (wu ((Int.tmod (wi (Int.tdiv (wi (adm y1 x2.1)) 8)) y0.tasks)))).set r5.1.1.bottom.toNat (wu ((aeG x2.2.1 r5.1.1.bottom)+1)),())
   else none
   else none
   else none
   else none
   else
   self4 (wi (x2.1+1),x2.2.1,())
   else none
   else none
   else none
   else none
   else none
   else
   some (x2.1,x2.2.1,())
   else
   some (x2.1,x2.2.1,())
  ) 18446744073709551616 (0,List.replicate (r1.1.1:Int).toNat (0:Int),())).bind fun z3 =>
  (lpF (σ:=Int×List Int×Unit) (β:=Int×List Int×Unit) (fun self8 x6 =>
   if x6.1<y0.tasks then
   (ac6 y0 x6.1).bind fun r9 =>
   if 0≤r9.1.1∧r9.1.1<((x6.2.1.length:Nat):Int) then
   if x6.1<((y2.length:Nat):Int) then
   if 0≤x6.1∧x6.1<((y2.length:Nat):Int) then
   (ac6 y0 x6.1).bind fun r10 =>
   if 0≤r10.1.1∧r10.1.1<(((x6.2.1.set r9.1.1.toNat 1).length:Nat):Int) then
   self8 (wi (x6.1+1),(x6.2.1.set r9.1.1.toNat 1).set r10.1.1.toNat (wu ((Int.tmod (adm y2 x6.1) 5))),())
   else none
   else none
   else
   self8 (wi (x6.1+1),x6.2.1.set r9.1.1.toNat 1,())
   else none
   else
   some (x6.1,x6.2.1,())
  ) 18446744073709551616 (0,z3.2.1,())).bind fun z7 =>
  some ((z7.2.1,()),())
 else none
noncomputable abbrev ae1:Con SR1:=⟨31,[.val 13,.sh (.ro 17),.sh (.ro 17)],[.sh (.row 0)],fun x =>adi x.1 x.2.1 x.2.2.1⟩
theorem ahd (y0:Cfg) (y1:List Int) (y2:List Int):adN y0 y1 y2=adi y0 y1 y2:=by
 unfold adN adi
 simp only [if_true,afL,au0,aAU,azD,Option.bind_assoc,Option.bind_some]
 try rfl
theorem ahc:CO Tryz.prog ae1:=aFF agj fun x out hx =>(show aen.spec x=some out from (ahd x.1 x.2.1 x.2.2.1).trans hx)
noncomputable def adZ  : Option ((Bool×Unit)×(Unit)) :=
 (afi 2).bind fun r1 =>
 (adi r1.1.1 ([8,16,28]) ([])).bind fun r2 =>
 (adW r1.1.1 r2.1.1 0 0).bind fun r3 =>
 (adW r1.1.1 r3.2.1 0 1).bind fun r4 =>
 (ac6 r1.1.1 3).bind fun r5 =>
 if 0≤r5.1.1∧r5.1.1<((r4.2.1.length:Nat):Int) then
  (adW r1.1.1 (r4.2.1.set r5.1.1.toNat 4) 0 0).bind fun r6 =>
  (adW r1.1.1 r6.2.1 0 1).bind fun r7 =>
  if r3.1.2.1=true then
   if r3.1.1=3 then
   if r4.1.2.1=true then
   if r4.1.1=3 then
   if r6.1.2.1=true then
   if r6.1.1=2 then
   if r7.1.2.1=true then
   if r7.1.1=1 then
   (agn r1.1.1 r7.2.1 0 0).bind fun r8 =>
   (ab3 r8.1.1 ([1,2])).bind fun r9 =>
   some ((r9.1.1,()),())
   else
   some ((false,()),())
   else
   some ((false,()),())
   else
   some ((false,()),())
   else
   some ((false,()),())
   else
   some ((false,()),())
   else
   some ((false,()),())
   else
   some ((false,()),())
  else
  some ((false,()),())
 else none
noncomputable abbrev aeJ:Con SR1:=⟨12,[],[.sh .b],fun x =>adZ ⟩
theorem ag4:CO Tryz.prog aeJ:=abc abb Tryz.func12 [aeI,ae1,ajQ,adR,alo,adM] ⟨ag3,ahc,alj,adC,amQ,aeH,trivial⟩ [] trivial (fun _ =>[]) [] fun x =>by kernel_rfl
noncomputable def amS (c:Cfg) (y1:List Int) (y2:List Int) (y3:List Int) (y4:Int) (w:Int) (l:Int):Option ((Bool×Unit)×(Unit)) :=
 (asZ c).bind fun r1 =>
 (aoC c).bind fun r2 =>
 (aoB y1 400).bind fun r3 =>
 if (((r2.1.1.length+r3.1.1.length:Nat)):Int)<1000000000000 then
  (apY r1.1.1 (r2.1.1++r3.1.1)).bind fun r4 =>
  if (((([]:List Int).length+r4.2.1.e.m.cells.length:Nat)):Int)<1000000000000 then
   (adZ).bind fun r5 =>
   if (!r5.1.1)=true then
   some ((false,()),())
   else
   (adW c (([])++r4.2.1.e.m.cells) y4 w).bind fun r6 =>
   (agp c r6.2.1 y4 w).bind fun r7 =>
   if r6.1.1=r7.1.1 then
   if r6.1.2.1=r7.1.2.1 then
   (agn c r7.2.1 w l).bind fun r8 =>
   cg9 c (
   (ahP c r8.2.1 w l).bind fun r9 =>
   (ab3 r8.1.1 r9.1.1).bind fun r10 =>
   if (!r10.1.1)=true then
   some ((false,()),())
   else
   (afk c y2 y4 w).bind fun r11 =>
   (ahk c y2 y4 w).bind fun r12 =>
   if r11.1.1=r12.1.1 then
   if r11.1.2.1=r12.1.2.1 then
   (agm c y2 w l).bind fun r13 =>
   cg9 c (
   (aiw c y2 w l).bind fun r14 =>
   (ab3 r13.1.1 r14.1.1).bind fun r15 =>
   if (!r15.1.1)=true then
   some ((false,()),())
   else
   (lpF (σ:=Int×List Int×Unit) (β:=Int×List Int×Unit) (fun self16 x17 =>
   if (wi (x17.1+1))<((y3.length:Nat):Int) then
   if x17.1<20 then
   (aeY y3 x17.1 ((x17.2.1.length:Nat):Int)).bind fun r18 =>
   (aeY y3 (wi (x17.1+1)) 8).bind fun r19 =>
   if 0≤r18.1.1∧r18.1.1<((x17.2.1.length:Nat):Int) then
   self16 (wi (x17.1+2),x17.2.1.set r18.1.1.toNat (wu (r19.1.1)),())
   else none
   else
   some (x17.1,x17.2.1,())
   else
   some (x17.1,x17.2.1,())
   ) 18446744073709551616 (0,r9.2.1,())).bind fun z20 =>
   (adW c z20.2.1 y4 w).bind fun r21 =>
   (agp c r21.2.1 y4 w).bind fun r22 =>
   if r21.1.1=r22.1.1 then
   if r21.1.2.1=r22.1.2.1 then
   (agn c r22.2.1 w l).bind fun r23 =>
   cg9 c (
   (ahP c r23.2.1 w l).bind fun r24 =>
   (ab3 r23.1.1 r24.1.1).bind fun r25 =>
   some ((r25.1.1,()),())
   )
   else
   some ((false,()),())
   else
   some ((false,()),())
   )
   else
   some ((false,()),())
   else
   some ((false,()),())
   )
   else
   some ((false,()),())
   else
   some ((false,()),())
  else none
 else none
noncomputable def adh (y0:List Int) (y1:List Int) (y2:List Int) (y3:List Int) (y4:Int) (y5:Int) (y6:Int) (y7:Bool):Option ((Bool×Unit)×(Unit)) :=
 (atg y0 ([y3])).bind fun r1 =>
 if (!r1.1.1)=true then
  some ((true,()),())
 else
 if 800<((y1.length:Nat):Int) then
  some ((true,()),())
 else
 if 400<((y2.length:Nat):Int) then
  some ((true,()),())
 else
 (alV y0).bind fun r2 =>
 if y7=true then
  agr (
   if r2.1.1.levels=r2.1.1.levels then
   if r2.1.1.workers=r2.1.1.workers then
   agr (
   (aeY ([y5]) 0 (wi (r2.1.1.workers+1))).bind fun r57 =>
   if r2.1.1.levels=r2.1.1.levels then
   if r2.1.1.levels=r2.1.1.levels then
   if r2.1.1.workers=r2.1.1.workers then
   (aeY ([y6]) 0 (wi (r2.1.1.levels+1))).bind fun r58 =>
   amS r2.1.1 y1 y2 y3 y4 r57.1.1 r58.1.1
   else none
   else none
   else none
   ) (
   if r2.1.1.levels=r2.1.1.levels then
   if r2.1.1.workers=r2.1.1.workers then
   (aeY ([y5]) 0 (wi (r2.1.1.workers+1))).bind fun r30 =>
   if r2.1.1.levels=r2.1.1.levels then
   (aeY ([y6]) 0 (wi (r2.1.1.levels+1))).bind fun r31 =>
   amS r2.1.1 y1 y2 y3 y4 r30.1.1 r31.1.1
   else none
   else none
   else none
   )
   else none
   else none
  ) (
   if r2.1.1.levels=r2.1.1.levels then
   if r2.1.1.workers=r2.1.1.workers then
   if r2.1.1.levels=r2.1.1.levels then
   if r2.1.1.workers=r2.1.1.workers then
   (aeY ([y5]) 0 (wi (r2.1.1.workers+1))).bind fun r3 =>
   if r2.1.1.levels=r2.1.1.levels then
   (aeY ([y6]) 0 (wi (r2.1.1.levels+1))).bind fun r4 =>
   amS r2.1.1 y1 y2 y3 y4 r3.1.1 r4.1.1
   else none
   else none
   else none
   else none
   else none
  )
 else
 amS r2.1.1 y1 y2 y3 y4 y5 y6
noncomputable abbrev afZ:Con SR1:=⟨3,[.sh (.ro 17),.sh (.ro 17),.sh (.ro 0),.sh (.ro 1),.sh sI_,.sh sI_,.sh sI_,.sh .b],[.sh .b],fun x =>adh x.1 x.2.1 x.2.2.1 x.2.2.2.1 x.2.2.2.2.1 x.2.2.2.2.2.1 x.2.2.2.2.2.2.1 x.2.2.2.2.2.2.2.1⟩
noncomputable def afM:List (Nat×Func):=[(13,Tryz.f13)]
theorem afN:CO Tryz.prog afZ:=abc abb Tryz.func3 [atf,alU,aqm,asY,aql,aqk,asX,aeJ,ajQ,aiX,alo,ako,adM,alm,aii,amR,aiY] ⟨awY,ans,auE,awd,auD,auC,awc,ag4,alj,amv,amQ,anY,aeH,apr,alu,aq6,amw,trivial⟩ afM ⟨Tryz.func13,trivial⟩ (fun _ =>[]) [(12,.loop [.rg 20 sI_,.rg 19 (.row 0)] 18446744073709551616 0)] fun x =>by kernel_rfl
end
section
open Go Go.RowKit
set_option maxRecDepth 10000
variable [Tb]
theorem ad0 {α β:Type} (x:α) (f:α→Option β):(some x).bind f=f x:=rfl
theorem aAd:adZ=some ((true,()),()):=by kernel_rfl
section
variable {c:Cfg} {cs:List Int}
theorem aDg (h:snB c cs=true) (d w:Int):adW c cs d w=some (((ada c cs d w).getD 0,(ada c cs d w).isSome,()),(cs,())):=if_pos h
theorem aDw (h:snB c cs=true) (d w:Int):agp c cs d w=some (((ada c cs d w).getD 0,(ada c cs d w).isSome,()),(cs,())):=if_pos h
theorem aDh (h:snB c cs=true) (d w:Int):afk c cs d w=some (((ada c cs d w).getD 0,(ada c cs d w).isSome,()),()):=if_pos h
theorem aDx (h:snB c cs=true) (d w:Int):ahk c cs d w=some (((ada c cs d w).getD 0,(ada c cs d w).isSome,()),()):=if_pos h
theorem aDi (h:snB c cs=true) (d w:Int):agn c cs d w=some ((abz c cs d w,()),(cs,())):=if_pos h
theorem aDz (h:snB c cs=true) (d w:Int):ahP c cs d w=some ((abz c cs d w,()),(cs,())):=if_pos h
theorem aDj (h:snB c cs=true) (d w:Int):agm c cs d w=some ((abz c cs d w,()),()):=if_pos h
theorem aDA (h:snB c cs=true) (d w:Int):aiw c cs d w=some ((abz c cs d w,()),()):=if_pos h
theorem ar7 (hq:c.deque≤4) (w l:Int):(abz c cs w l).length≤4:=by
 unfold abz
 split
 ·exact Nat.zero_le _
 ·unfold ae0
  split
  ·exact Nat.zero_le _
  ·rw [List.length_map,List.length_range]; omega
theorem avu (hh:c.heap≤8) (h:∀ x∈cs,UR x):snB c cs=true:=by
 unfold snB cwB
 rw [Bool.and_eq_true]
 exact ⟨List.all_eq_true.2 fun x hx =>by have:=h x hx; simpa [UR] using this,decide_eq_true hh⟩
theorem az7 (D:DecOk c):1≤ag5 (ahE c):=by
 have hw:=D.w; have hl:=D.l; have hk:=D.k; have ht:=D.t; have hq:=D.q; have hh:=D.h
 have h1:=aqg hw.1 hw.2 hl.1 hl.2
 have h2:=aqg h1.1 h1.2 (b:=2+c.deque) (B:=6) (by omega) (by omega)
 have e1:wi (c.workers*c.levels)=c.workers*c.levels:=acH (aam (by omega))
 have e2:wi (2+c.deque)=2+c.deque:=acH (aam (by omega))
 have e3:wi (c.workers*c.levels*(2+c.deque))=c.workers*c.levels*(2+c.deque):=acH (aam (by omega))
 have e4:wi (5*c.tasks)=5*c.tasks:=acH (aam (by omega))
 have hd:4≤dqA c∧dqA c≤100:=by
  unfold dqA
  have f1:wi (4+c.heap)=4+c.heap:=acH (aam (by omega))
  have f2:wi (2*c.workers)=2*c.workers:=acH (aam (by omega))
  have f3:wi (4+c.heap+c.classes)=4+c.heap+c.classes:=acH (aam (by omega))
  have f4:wi (4+c.heap+c.classes+2*c.workers)=4+c.heap+c.classes+2*c.workers:=acH (aam (by omega))
  simp only [f1,f2,f3,f4]
  omega
 have e5:ahE c=dqA c+c.workers*c.levels*(2+c.deque)+5*c.tasks:=by
  unfold ahE
  rw [e1,e2,e3,e4,acH (x:=dqA c+c.workers*c.levels*(2+c.deque)) (aam (by omega))]
  exact acH (aam (by omega))
 unfold ag5
 repeat' split
 all_goals omega
end
theorem alX {l:List Int} (h:l.length≤1000):ade (ab3 l l) fun o =>o.1.1=true:=by
 unfold ab3
 refine ade.ite (fun h =>absurd rfl h) fun _ =>?_
 refine ade.bind (P:=fun z =>∃ y,z=.inl y) (agz (fun x =>0≤x.1∧x.1≤(l.length:Int)) (fun x =>((l.length:Int)-x.1).toNat) (fun self x ⟨q0,q1⟩ ih =>?_) _ _ ⟨Int.le_refl 0,by show (0:Int)≤(l.length:Int); omega⟩ (by show ((l.length:Int)-0).toNat<_; omega)) fun z ⟨y,hz⟩ =>by subst hz; exact .some_ rfl
 refine ade.ite (fun hlt =>.guard ⟨q0,hlt⟩ fun _ =>.guard ⟨q0,hlt⟩ fun _ =>ade.ite (fun h =>absurd rfl h) fun _ =>?_) fun _ =>.some_ ⟨_,rfl⟩
 have e1:wi (x.1+1)=x.1+1:=acH (aam (by omega))
 rw [e1]
 exact ih _ ⟨by show 0≤x.1+1; omega,by show x.1+1≤(l.length:Int); omega⟩ (by show ((l.length:Int)-(x.1+1)).toNat<((l.length:Int)-x.1).toNat; omega)
theorem aqH {c:Cfg} (D:DecOk c) {y1 y2 y3:List Int} (h1:y1.length≤800) (h2:∀ x∈y2,UR x) (h3:y3.length≤400) (y4 w l:Int):ade (amS c y1 y2 y3 y4 w l) fun o =>o.1.1=true:=by
 have hk:=D.ok
 have hsn:=D.sn
 have h8:c.heap≤8:=by have:=D.h; omega
 have hq:=D.q.2
 unfold amS
 simp only [aAU]
 rw [aDR hk,ad0]
 obtain ⟨o2,e2,g2⟩:=auA hk
 rw [e2,ad0]
 refine (arc (b:=y1) (n:=400) (by omega) (by decide)).bind fun r3 g3 =>?_
 have g3a:r3.1.1.length≤400:=g3.1
 have g2a:=g2.1
 refine .guard (by show ((o2.1.1.length+r3.1.1.length:Nat):Int)<_; omega) fun _ =>?_
 have hE:aAh 600 (o2.1.1++r3.1.1):=⟨by rw [List.length_append]; omega,fun v hv =>(List.mem_append.1 hv).elim (g2.2 v) (g3.2 v)⟩
 refine (avH (aBY hk) (aE5 c) hE (Nat.le_refl 1) (by decide)).bind fun r4 g4 =>?_
 have hN:(r4.2.1.e.m.cells.length:Int)=ag5 (ahE c):=by
  rw [g4.2.2.2]
  show ((List.replicate (ag5 (ahE c)).toNat (0:Int)).length:Int)=_
  rw [List.length_replicate]
  have:=(aou (ahE c)).1
  omega
 have hM:=aou (ahE c)
 have hM1:=az7 D
 have hu:∀ x∈r4.2.1.e.m.cells,UR x:=g4.2.2.1.e
 generalize r4.2.1.e.m.cells=cells at hN hu ⊢
 refine .guard (by show ((0+cells.length:Nat):Int)<_; omega) fun _ =>?_
 rw [aAd,ad0]
 refine ade.ite (fun h =>by cases h) fun _ =>?_
 rw [List.nil_append]
 have hs:=avu h8 hu
 have hr:=avu (c:=c) h8 h2
 rw [aDg hs,ad0,aDw hs,ad0]
 refine ade.ite (fun _ =>?_) fun h =>absurd rfl h
 refine ade.ite (fun _ =>?_) fun h =>absurd rfl h
 rw [aDi hs,ad0,aDz hs,ad0]
 refine (alX (Nat.le_trans (ar7 hq _ _) (by decide))).bind fun r10 g10 =>?_
 rw [g10]
 refine ade.ite (fun h =>by cases h) fun _ =>?_
 rw [aDh hr,ad0,aDx hr,ad0]
 refine ade.ite (fun _ =>?_) fun h =>absurd rfl h
 refine ade.ite (fun _ =>?_) fun h =>absurd rfl h
 rw [aDj hr,ad0,aDA hr,ad0]
 refine (alX (Nat.le_trans (ar7 hq _ _) (by decide))).bind fun r15 g15 =>?_
 rw [g15]
 refine ade.ite (fun h =>by cases h) fun _ =>?_
 refine ade.bind (P:=fun z =>∀ x∈z.2.1,UR x) (agz (fun x =>(0≤x.1∧x.1≤30)∧(x.2.1.length:Int)=ag5 (ahE c)∧∀ y∈x.2.1,UR y) (fun x =>(30-x.1).toNat) (fun self x ⟨q0,q1,q2⟩ ih =>?_) _ _ ⟨⟨Int.le_refl 0,by show (0:Int)≤30; decide⟩,hN,hu⟩ (by show (30-(0:Int)).toNat<_; decide)) fun z hz =>?_
 rotate_left
 ·have e1:wi (x.1+1)=x.1+1:=acH (aam (by omega))
  have e2:wi (x.1+2)=x.1+2:=acH (aam (by omega))
  rw [e1,e2]
  refine ade.ite (fun _ =>ade.ite (fun hlt =>?_) fun _ =>.some_ q2) fun _ =>.some_ q2
  have hlt:x.1<20:=hlt
  refine (ajp (l:=y3) (by omega) (by omega) (by omega) (by omega) (by omega)).bind fun r18 g18 =>(ajp (l:=y3) (by omega) (by omega) (by omega) (by decide) (by decide)).bind fun r19 _ =>?_
  refine .guard (by omega) fun _ =>ih _ ⟨⟨by show 0≤x.1+2; omega,by show x.1+2≤30; omega⟩,by show ((x.2.1.set _ _).length:Int)=_; rw [List.length_set]; exact q1,fun y hy =>?_⟩ (by show (30-(x.1+2)).toNat<(30-x.1).toNat; omega)
  rcases List.mem_or_eq_of_mem_set hy with hy | rfl
  ·exact q2 y hy
  ·exact aqU _
 have hz':=avu h8 hz
 rw [aDg hz',ad0,aDw hz',ad0]
 refine ade.ite (fun _ =>?_) fun h =>absurd rfl h
 refine ade.ite (fun _ =>?_) fun h =>absurd rfl h
 rw [aDi hz',ad0,aDz hz',ad0]
 exact (alX (Nat.le_trans (ar7 hq _ _) (by decide))).bind fun r25 g25 =>.some_ g25
theorem aln {b s raw ch:List Int} (hb:∀ x∈b,0≤x∧x≤255) (hr:∀ x∈raw,UR x) (draw w l:Int) (near:Bool):ade (adh b s raw ch draw w l near) fun o =>o.1.1=true:=by
 unfold adh
 refine (at2 b [ch] (by show 1≤1000000; omega)).bind fun r1 h1 =>ade.ite (fun _ =>.some_ rfl) fun h2 =>ade.ite (fun _ =>.some_ rfl) fun h3 =>ade.ite (fun _ =>.some_ rfl) fun _ =>?_
 obtain ⟨h4,h5⟩:=h1 (by
  cases hb2:r1.1.1 with
  | true =>rfl
  | false =>rw [hb2] at h2; exact absurd rfl h2)
 have h6:=h5 ch (List.mem_cons_self ..)
 refine (asc hb (by omega)).bind fun r2 D =>?_
 have hs:s.length≤800:=by have h3:¬ 800<((s.length:Nat):Int):=h3; omega
 have hw:=D.w
 have hl:=D.l
 have e1:wi (r2.1.1.workers+1)=r2.1.1.workers+1:=acH (aam (by omega))
 have e2:wi (r2.1.1.levels+1)=r2.1.1.levels+1:=acH (aam (by omega))
 refine ade.ite (fun _ =>?_) fun _ =>aqH D hs hr h6 _ _ _
 simp only [if_true,afL,e1,e2]
 refine (ajp (l:=[w]) (by show 1≤1000000; decide) (by decide) (by decide) (by omega) (by omega)).bind fun r3 _ =>(ajp (l:=[l]) (by show 1≤1000000; decide) (by decide) (by decide) (by omega) (by omega)).bind fun r4 _ =>aqH D hs hr h6 _ _ _
end
section
open Go.ChangeShapes Go.WideShapes Go.RowKit Go.Deep
theorem avr {w:World} {a:Addr} {v:Value} (h:w.cell? a=some v):a=⟨a.block,a.off,none⟩∧a.block<w.heap.size:=by
 unfold World.cell? at h
 split at h
 ·rename_i hb
  split at h
  ·cases h
  ·rename_i hs
   refine ⟨?_,?_⟩
   ·cases a with
    | mk b o s =>cases s with
     | none =>rfl
     | some k =>simp at hs
   ·rcases Nat.lt_or_ge a.block w.heap.size with h1 | h1
    ·exact h1
    ·rw [Array.getElem?_eq_none h1] at hb; cases hb
 ·cases h
theorem aAf (b o n:Nat):(⟨b,o,none⟩:Addr).add n=⟨b,o+n,none⟩:=by
 unfold Addr.add; split
 ·rename_i h; simp [h]
 ·rfl
theorem aiu {α:Type} (Y:Nat→Option α):∀ len,(∀ i,i<len→∃ z,Y i=some z)→((List.range len).filterMap Y).length=len∧∀ i,i<len→((List.range len).filterMap Y)[i]?=Y i
 | 0,_ =>by simp
 | k+1,h =>by
  obtain ⟨z,hz⟩:=h k (by omega)
  have hk:=aiu Y k (fun i hi =>h i (by omega))
  have e1:List.filterMap Y [k]=[z]:=by simp [hz]
  rw [List.range_succ,List.filterMap_append,e1]
  refine ⟨by simp [hk.1],fun i hi =>?_⟩
  rcases Nat.lt_or_ge i k with h1 | h1
  ·rw [List.getElem?_append_left (by rw [hk.1]; exact h1)]; exact hk.2 i h1
  ·have e:i=k:=by omega
   subst e
   rw [List.getElem?_append_right (by rw [hk.1]; omega),hk.1,hz]; simp
section
variable {H:Type} {enc:TypeId×Value→H} {P:Program} {w:World} {base:Nat} {spare:Nat→Bool} {held:Bool}
theorem aq9 {α:Type} {en:α→List Value} {sz:Nat} {Q:α→Prop} {t e:TypeId} {fuel:Nat} {cs:List Value} {x:DataW H×List MemPlace} (ht:P.underlying t=some (.slice e)) (hC:P.cellsOf e=sz) (hsz:0<sz)
  (hel:∀ n cs' d,DataW.trod enc P w base spare held n e cs'=some d→cs'.length=sz→∃ y:α,Q y∧cs'=en y) (h:DataW.trod enc P w base spare held fuel t cs=some x) :
  ∃ A cap xs,cs=[.slice A xs.length cap]∧Sl en sz w w.heap.size A xs∧(∀ y∈xs,Q y)∧xs.length≤cap:=by
 rcases open_slice ht h with ⟨h0,_⟩ | ⟨a,len,cap,m,n,D,Pl,hcs,hb,hl,hm,hmm,hx,hi⟩
 ·exact ⟨none,0,[],h0,Sl.nil,by simp,Nat.le_refl _⟩
 ·have hm0:len≤m:=by rw [hmm]; split<;>omega
  have hY:∀ i,∃ y:Option α,i<len→∃ z,y=some z∧Q z∧∀ j u,(en z)[j]?=some u→w.cell? (a.add (i*sz+j))=some u:=by
   intro i
   by_cases hil:i<len
   ·obtain ⟨cs',hc,ht'⟩:=hi i (by omega)
    rw [hC] at hc
    obtain ⟨_,hcl,hat⟩:=World.cells?_some hc
    obtain ⟨y,hq,rfl⟩:=hel n cs' _ ht' hcl
    refine ⟨some y,fun _ =>⟨y,rfl,hq,fun j u hu =>?_⟩⟩
    have hj:j<sz:=by
     rcases Nat.lt_or_ge j sz with h1 | h1
     ·exact h1
     ·rw [List.getElem?_eq_none (by omega)] at hu; cases hu
    rw [← Go.Deep.add_add,hat j hj,hu]
   ·exact ⟨none,fun h =>absurd h hil⟩
  obtain ⟨Y,hY⟩:=Classical.axiomOfChoice hY
  have hlen:=aiu Y len (fun i hi =>(hY i hi).imp fun z h =>h.1)
  refine ⟨some a,cap,(List.range len).filterMap Y,by rw [hcs,hlen.1],⟨by rw [hlen.1]; simp only [maxLen] at hm; omega,fun hne =>?_⟩,fun y hy =>?_,by rw [hlen.1]; exact hl⟩
  ·have hpos:0<len:=by
    rw [← hlen.1]; exact List.length_pos_iff.2 hne
   obtain ⟨cs',hc,_⟩:=hi 0 (by omega)
   rw [hC] at hc
   obtain ⟨_,hcl,hat⟩:=World.cells?_some hc
   have h00:=hat 0 hsz
   rw [List.getElem?_eq_getElem (by omega)] at h00
   have hs:=avr h00
   have ea:(a.add (0*sz)).add 0=a:=by simp [Addr.add]
   rw [ea] at hs
   refine ⟨a.block,a.off,by rw [← hs.1],hs.2,fun i z hz j u hu =>?_⟩
   have hil:i<len:=by
    rcases Nat.lt_or_ge i len with h1 | h1
    ·exact h1
    ·rw [List.getElem?_eq_none (by rw [hlen.1]; exact h1)] at hz; cases hz
   obtain ⟨z',hz',_,hcell⟩:=hY i hil
   rw [hlen.2 i hil,hz'] at hz
   injection hz with hz
   subst hz
   have:=hcell j u hu
   rw [hs.1,aAf] at this
   rw [Nat.add_assoc]
   exact this
  ·obtain ⟨i,hi1,hi2⟩:=List.mem_filterMap.1 hy
   obtain ⟨z,hz,hq,_⟩:=hY i (List.mem_range.1 hi1)
   rw [hz] at hi2
   injection hi2 with hi2
   rw [← hi2]; exact hq
end
end
end Go.Proofs.YtjjbdbbmdhncjaaGreat
