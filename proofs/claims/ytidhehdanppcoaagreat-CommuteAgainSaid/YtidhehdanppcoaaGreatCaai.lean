/- Walks: slices.Clone at the slices of a configuration. slices.Clone at the slices of a configuration,in the evaluator's words. Walks: the checks of a configuration (config and its reference),function by function. Walks: the checks of a configuration's programs and submissions (config). The check of a configuration,in the evaluator's words. What it means that an answer is there; numbers; loops. Walks: park.Asleep. park.Asleep in the evaluator's form. bits.TrailingZeros64 over any table. Walks: slices.Clone at the rows of an environment. slices.Clone at the rows of an environment,in the evaluator's words. The program's machines in the evaluator's form. -/
import Derived.Test.YtidhehdanppcoaaGreatCaah
import Derived.Lib.SliceRun
import Derived.WalkKit
import Derived.Test.YtidhehdanppcoaaGreatRows
import Derived.Test.YtidhehdanppcoaaGreatCaaa
set_option linter.all false
namespace Go.Proofs.YtidhehdanppcoaaGreat
section
open Go.RowKit Go.Maps
def axD {α:Type} (enc:α→List Value) (sz:Nat) (el:TypeId) (w:World) (xs:List α) (e:Ending) (w':World):Prop :=
 (∃ A' c',e=.returned (.slice A' xs.length c')∧w'.ownsRow w.heap.size el sz (.slice A' xs.length c') xs.length (xs.flatMap enc))∧Below w.heap.size w w'
theorem ajA {α:Type} {enc:α→List Value} {sz:Nat} (henc:∀ x,(enc x).length=sz):∀ xs:List α,(xs.flatMap enc).length=xs.length*sz
 | [] =>by simp
 | x::xs =>by rw [List.flatMap_cons,List.length_append,ajA henc xs,henc,List.length_cons,Nat.succ_mul,Nat.add_comm]
theorem auQ {α:Type} {enc:α→List Value} {sz:Nat} (henc:∀ x,(enc x).length=sz) (hsz:0<sz) {w:World} {B:Nat} {a:Addr} {xs:List α} (hx:Sl enc sz w B (some a) xs) (ob:Obj) :
  ∀ j u,(xs.flatMap enc)[j]?=some u→(w.alloc ob).cell? (a.add j)=some u:=by
 intro j u hj
 have hjl:j<(xs.flatMap enc).length:=(List.getElem?_eq_some_iff.1 hj).1
 have hne:xs≠[]:=by intro e; subst e; simp at hjl
 obtain ⟨b,o,e,hb,hc⟩:=hx.2 hne
 injection e with e
 subst e
 have hA:(⟨b,o,none⟩:Addr).add j=⟨b,o+j,none⟩:=by unfold Addr.add; split<;>simp_all
 rw [hA]
 refine Lib.cell?_alloc_some _ ?_
 rw [ajA henc] at hjl
 have hi:j / sz<xs.length:=(Nat.div_lt_iff_lt_mul hsz).2 hjl
 have hm:j % sz<(enc xs[j / sz]).length:=by rw [henc]; exact Nat.mod_lt _ hsz
 have hg:=at4 (enc:=enc) (sz:=sz) henc xs (j / sz) xs[j / sz] (List.getElem?_eq_getElem hi) (j % sz) _ (List.getElem?_eq_getElem hm)
 have hjj:j / sz*sz+j % sz=j:=by rw [Nat.mul_comm]; exact Nat.div_add_mod _ _
 rw [hjj,hj] at hg
 injection hg with hg
 have hc':=hc (j / sz) _ (List.getElem?_eq_getElem hi) (j % sz) _ (List.getElem?_eq_getElem hm)
 rw [hg]
 rw [Nat.add_assoc,hjj] at hc'
 exact hc'
set_option maxHeartbeats 2000000 in
theorem auf (A:Option Addr) (cap:Nat) (xs:List Ins) (w:World) (hx:Sl Ins.enc 3 w w.heap.size A xs) (hn:xs.length≤1000000) :
  Calls Tryz.prog 67 #[.slice A xs.length cap] w (axD Ins.enc 3 100 w xs):=by
 cases A with
 | none =>
  have hnil:xs=[]:=by
   rcases xs with _ | ⟨x,xs⟩
   ·rfl
   ·obtain ⟨b,o,e,_⟩:=hx.2 (by simp)
    cases e
  subst hnil
  have q:∀ (w:World) (a:Option Addr) (n c n' c':Nat),(binOp .eql 98 (.slice a n c) (.slice none n' c')).run Tryz.prog w=.ok (.bool a.isNone) w:=fun w a n c n' c' =>Lib.run_eql_slice_nil w _ _ a n c n' c' Tryz.underlying98
  go_enter Tryz.func67,Tryz.ntmps67
  go_wp2
  go_ret
  exact ⟨⟨none,0,rfl,World.ownsRow_nil _ _ _ _⟩,Below.refl _ _⟩
 | some a =>
  obtain ⟨i0,hi,hz0,hz1,hz2⟩:=info_parts aF0
  have q:∀ (w:World) (a:Option Addr) (n c n' c':Nat),(binOp .eql 98 (.slice a n c) (.slice none n' c')).run Tryz.prog w=.ok (.bool a.isNone) w:=fun w a n c n' c' =>Lib.run_eql_slice_nil w _ _ a n c n' c' Tryz.underlying98
  have hcell:=Lib.hid (auQ (sz:=3) (w:=w) (B:=w.heap.size) (fun _ =>rfl) (by decide) hx (Obj.cells #[] 100))
  clear hx
  go_enter Tryz.func67,Tryz.ntmps67
  go_wp2_with (at_builtin; refine wpList_append_own_at _ rfl _ _ 98 rfl w.heap.size 100 i0 (.agg #[.int .i64 0,.int .i64 0,.int .i64 0]) 3 24 Tryz.underlying98 hi hz0 hz1 hz2 rfl (by decide) _ _ _ rfl (World.ownsRow_made w #[] 0 (Nat.le_refl _) (Nat.zero_le _) rfl) a xs.length cap (xs.flatMap Ins.enc) rfl ?qc0 ?qc1 ?qc2 ?qc3 ?qc4 ?qc5 ?_)
  case qc0 =>exact ajA (enc:=Ins.enc) (sz:=3) (fun _ =>rfl) xs
  case qc1 =>exact hcell.out
  case qc2 =>intro u hu; rw [List.mem_flatMap] at hu; obtain ⟨x,_,hu⟩:=hu; simp [Ins.enc] at hu; rcases hu with rfl | rfl | rfl<;>rfl
  case qc3 =>unfold maxLen; omega
  case qc4 =>omega
  case qc5 =>simp
  intro v' w1 hown hgrow _ _
  obtain ⟨A',c',hv⟩:=ao2 hown
  subst hv
  clear hcell
  go_wp2
  go_ret
  exact ⟨⟨A',c',by simp,by simpa using hown⟩,((Below.refl _ w).alloc (Nat.le_refl _) _).grown hgrow (by simp) (by intro k hk; simp [Value.ownBlock] at hk; omega)⟩
set_option maxHeartbeats 2000000 in
theorem asu (A:Option Addr) (cap:Nat) (xs:List (Option Addr×Nat×Nat)) (w:World) (hx:Sl an9 1 w w.heap.size A xs) (hn:xs.length≤1000000) :
  Calls Tryz.prog 66 #[.slice A xs.length cap] w (axD an9 1 98 w xs):=by
 cases A with
 | none =>
  have hnil:xs=[]:=by
   rcases xs with _ | ⟨x,xs⟩
   ·rfl
   ·obtain ⟨b,o,e,_⟩:=hx.2 (by simp)
    cases e
  subst hnil
  have q:∀ (w:World) (a:Option Addr) (n c n' c':Nat),(binOp .eql 25 (.slice a n c) (.slice none n' c')).run Tryz.prog w=.ok (.bool a.isNone) w:=fun w a n c n' c' =>Lib.run_eql_slice_nil w _ _ a n c n' c' Tryz.underlying25
  go_enter Tryz.func66,Tryz.ntmps66
  go_wp2
  go_ret
  exact ⟨⟨none,0,rfl,World.ownsRow_nil _ _ _ _⟩,Below.refl _ _⟩
 | some a =>
  obtain ⟨i0,hi,hz0,hz1,hz2⟩:=info_parts aE7
  have q:∀ (w:World) (a:Option Addr) (n c n' c':Nat),(binOp .eql 25 (.slice a n c) (.slice none n' c')).run Tryz.prog w=.ok (.bool a.isNone) w:=fun w a n c n' c' =>Lib.run_eql_slice_nil w _ _ a n c n' c' Tryz.underlying25
  have hcell:=Lib.hid (auQ (sz:=1) (w:=w) (B:=w.heap.size) (fun _ =>rfl) (by decide) hx (Obj.cells #[] 98))
  clear hx
  go_enter Tryz.func66,Tryz.ntmps66
  go_wp2_with (at_builtin; refine wpList_append_own_at _ rfl _ _ 25 rfl w.heap.size 98 i0 (.slice none 0 0) 1 24 Tryz.underlying25 hi hz0 hz1 hz2 rfl (by decide) _ _ _ rfl (World.ownsRow_made w #[] 0 (Nat.le_refl _) (Nat.zero_le _) rfl) a xs.length cap (xs.flatMap an9) rfl ?qc0 ?qc1 ?qc2 ?qc3 ?qc4 ?qc5 ?_)
  case qc0 =>exact ajA (enc:=an9) (sz:=1) (fun _ =>rfl) xs
  case qc1 =>exact hcell.out
  case qc2 =>intro u hu; rw [List.mem_flatMap] at hu; obtain ⟨x,_,hu⟩:=hu; simp [an9] at hu; rcases hu with rfl; rfl
  case qc3 =>unfold maxLen; omega
  case qc4 =>omega
  case qc5 =>simp
  intro v' w1 hown hgrow _ _
  obtain ⟨A',c',hv⟩:=ao2 hown
  subst hv
  clear hcell
  go_wp2
  go_ret
  exact ⟨⟨A',c',by simp,by simpa using hown⟩,((Below.refl _ w).alloc (Nat.le_refl _) _).grown hgrow (by simp) (by intro k hk; simp [Value.ownBlock] at hk; omega)⟩
set_option maxHeartbeats 2000000 in
theorem ass (A:Option Addr) (cap:Nat) (xs:List Sub) (w:World) (hx:Sl Sub.enc 3 w w.heap.size A xs) (hn:xs.length≤1000000) :
  Calls Tryz.prog 68 #[.slice A xs.length cap] w (axD Sub.enc 3 102 w xs):=by
 cases A with
 | none =>
  have hnil:xs=[]:=by
   rcases xs with _ | ⟨x,xs⟩
   ·rfl
   ·obtain ⟨b,o,e,_⟩:=hx.2 (by simp)
    cases e
  subst hnil
  have q:∀ (w:World) (a:Option Addr) (n c n' c':Nat),(binOp .eql 26 (.slice a n c) (.slice none n' c')).run Tryz.prog w=.ok (.bool a.isNone) w:=fun w a n c n' c' =>Lib.run_eql_slice_nil w _ _ a n c n' c' Tryz.underlying26
  go_enter Tryz.func68,Tryz.ntmps68
  go_wp2
  go_ret
  exact ⟨⟨none,0,rfl,World.ownsRow_nil _ _ _ _⟩,Below.refl _ _⟩
 | some a =>
  obtain ⟨i0,hi,hz0,hz1,hz2⟩:=info_parts aEv
  have q:∀ (w:World) (a:Option Addr) (n c n' c':Nat),(binOp .eql 26 (.slice a n c) (.slice none n' c')).run Tryz.prog w=.ok (.bool a.isNone) w:=fun w a n c n' c' =>Lib.run_eql_slice_nil w _ _ a n c n' c' Tryz.underlying26
  have hcell:=Lib.hid (auQ (sz:=3) (w:=w) (B:=w.heap.size) (fun _ =>rfl) (by decide) hx (Obj.cells #[] 102))
  clear hx
  go_enter Tryz.func68,Tryz.ntmps68
  go_wp2_with (at_builtin; refine wpList_append_own_at _ rfl _ _ 26 rfl w.heap.size 102 i0 (.agg #[.int .i64 0,.int .i64 0,.int .i64 0]) 3 24 Tryz.underlying26 hi hz0 hz1 hz2 rfl (by decide) _ _ _ rfl (World.ownsRow_made w #[] 0 (Nat.le_refl _) (Nat.zero_le _) rfl) a xs.length cap (xs.flatMap Sub.enc) rfl ?qc0 ?qc1 ?qc2 ?qc3 ?qc4 ?qc5 ?_)
  case qc0 =>exact ajA (enc:=Sub.enc) (sz:=3) (fun _ =>rfl) xs
  case qc1 =>exact hcell.out
  case qc2 =>intro u hu; rw [List.mem_flatMap] at hu; obtain ⟨x,_,hu⟩:=hu; simp [Sub.enc] at hu; rcases hu with rfl | rfl | rfl<;>rfl
  case qc3 =>unfold maxLen; omega
  case qc4 =>omega
  case qc5 =>simp
  intro v' w1 hown hgrow _ _
  obtain ⟨A',c',hv⟩:=ao2 hown
  subst hv
  clear hcell
  go_wp2
  go_ret
  exact ⟨⟨A',c',by simp,by simpa using hown⟩,((Below.refl _ w).alloc (Nat.le_refl _) _).grown hgrow (by simp) (by intro k hk; simp [Value.ownBlock] at hk; omega)⟩
end
section
open Go Go.RowKit
variable [Tb]
noncomputable def aj8 (l:List Ins):Option ((List Ins×Unit)×Unit):=if l.length≤1000000 then some ((l,()),()) else none
noncomputable abbrev aqZ:Con SR1:=⟨67,[.sh (.ro 3)],[.sh (.row 3)],fun x =>aj8 x.1⟩
noncomputable def ah4 (l:List Sub):Option ((List Sub×Unit)×Unit):=if l.length≤1000000 then some ((l,()),()) else none
noncomputable abbrev ap1:Con SR1:=⟨68,[.sh (.ro 4)],[.sh (.row 4)],fun x =>ah4 x.1⟩
theorem axm {f:FuncId} (hf:Nat.blt f agk=true) {c sz:Nat} {el:TypeId} (hp:∀ x,axQ (SR1.kt.vw c x)=true) (hsz:SR1.kt.sz c=sz) {spec:List (SR1.T c)→Option ((List (SR1.T c)×Unit)×Unit)} (hspec:∀ l o,spec l=some o→o=((l,()),())∧l.length≤1000000)
  (h:∀ (A:Option Addr) (cap:Nat) (xs:List (SR1.T c)) (w:World),Sl (ae4 SR1.kt c) sz w w.heap.size A xs→xs.length≤1000000→Calls Tryz.prog f #[.slice A xs.length cap] w (axD (ae4 SR1.kt c) sz el w xs)) :
  CO Tryz.prog ⟨f,[.sh (.ro c)],[.sh (.row c)],fun x =>spec x.1⟩:=fun x out hx B W hg vs F w hw =>by
 obtain ⟨hb,hB,hs⟩:=hw
 obtain ⟨ho,hl⟩:=hspec x.1 out hx
 subst ho
 show aga Tryz.prog f _ w _
 rw [aem hf]
 rcases vs with _ | ⟨v,_ | ⟨v2,vs⟩⟩
 ·exact aaQ hs
 ·replace hs:Sat B w [pcS SR1.kt (.ro c x.1) v,F]:=hs
  obtain ⟨A,cap,rfl,hsl⟩:=aDH hs
  have s1:=hs.drop
  rw [hsz] at hsl
  refine (h A cap x.1 w hsl hl).mono fun e w' ⟨⟨A',c',he,hown⟩,hb'⟩ =>⟨[.slice A' (List.length x.1) c'],he,hb.trans (hb'.mono hB),Nat.le_trans hB hb'.size,?_⟩
  have s2:=aoZ s1 hb' hB hown
  rw [← hsz] at s2
  exact arm hp s2
 ·replace hs:Sat B w (pcS SR1.kt (.ro c x.1) v::([fun _ =>False]++[F])):=hs
  exact aaQ hs.drop
theorem avK:CO Tryz.prog aqZ:=axm rfl (c:=3) (sz:=3) (fun _ =>rfl) rfl (spec:=aj8) (fun l o h =>by
 unfold aj8 at h
 split at h
 ·rename_i hl; cases h; exact ⟨rfl,hl⟩
 ·cases h) fun A cap xs w hx hn =>auf A cap xs w hx hn
theorem aud:CO Tryz.prog ap1:=axm rfl (c:=4) (sz:=3) (fun _ =>rfl) rfl (spec:=ah4) (fun l o h =>by
 unfold ah4 at h
 split at h
 ·rename_i hl; cases h; exact ⟨rfl,hl⟩
 ·cases h) fun A cap xs w hx hn =>ass A cap xs w hx hn
noncomputable def ah5 (l:List (List Ins)):Option ((List (List Ins)×Unit)×Unit):=if l.length≤1000000 then some ((l,()),()) else none
noncomputable abbrev aiy:Con SR1:=⟨66,[.sh (.rr 3)],[.sh (.row 18)],fun x =>ah5 x.1⟩
def aBf (xss:List (List Ins)) (ps:List (Option Addr×Nat)):List (Option Addr×Nat×Nat):=List.zipWith (fun xs a =>(a.1,xs.length,a.2)) xss ps
theorem atR {Φ:World→Prop} {L:List aad}:∀ (xss:List (List Ins)) (ps:List (Option Addr×Nat)),xss.length=ps.length→(∀ u,Φ u→∀ (i:Nat) xs a,xss[i]?=some xs→ps[i]?=some a→Sl (ae4 SR1.kt 3) 3 u u.heap.size a.1 xs∧xs.length≤a.2) →
  Ent (ae2 Φ::L) (act SR1.kt (pcS SR1.kt) 18 xss ((aBf xss ps).map an9)++ae2 Φ::L)
 | [],[],_,_ =>Ent.refl
 | [],_::_,h,_ =>by cases h
 | _::_,[],h,_ =>by cases h
 | xs::xss,a::ps,hl,hΦ =>by
  have ih:=atR (Φ:=Φ) (L:=L) xss ps (by simpa using hl) fun u hu i ys b h1 h2 =>hΦ u hu (i+1) ys b h1 h2
  refine alL.trans (fun h hs =>?_)
  have h1:=abu (A:=ae2 Φ) ih hs
  refine aaL (A':=pcS SR1.kt (.ro 3 xs) (.slice a.1 xs.length a.2)) (fun k hk =>?_) h1
  refine aaI.2 (show pcW SR1.kt (obS SR1.kt) (rwS SR1.kt) (.ro 3 xs) (.slice a.1 xs.length a.2) k from ⟨a.1,a.2,rfl,?_⟩)
  exact adT (fun u hu =>hΦ u hu 0 xs a rfl rfl) _ hk
theorem aBU {B:Nat} {w:World} {A R F:aad} {N:List aad} (s:Sat B w (N++A::[R,F])):Sat B w ((R::N)++[A,F]):=s.perm (aap fun f g h1 h2 h3 =>by simp only [List.cons_append,h1,h2,h3]; omega)
theorem ast (xss:List (List Ins)) (hl:xss.length≤1000000) (B:Nat) (W:World) (v:Value) (F:aad) (w:World) (hw:Cls B W [pcS SR1.kt (.rr 3 xss) v,F] w) :
  Calls Tryz.prog aiy.f #[v] w fun e w' =>∃ u,e=.returned u∧Cls B W [pcS SR1.kt (.row 18 xss) u,F] w':=by
 obtain ⟨hb,hB,hs⟩:=hw
 have s1:Sat B w ((fun h =>∃ A cap,v=.slice A xss.length cap∧rrS (ae4 SR1.kt 3) (SR1.kt.sz 3) A cap xss h)::[F]):=abi (alx (S:=SR1) (f:=.rr 3 xss) (fun _ h =>h) fun _ _ h =>h) hs
 obtain ⟨h,H,k1,k2,a,e,⟨A,cap,rfl,ps0,h1⟩,h2⟩:=s1
 have s2:Sat B w (ae2 _::[F]):=⟨h,H,k1,k2,a,e,h1,h2⟩
 have h3:=alK s2 List.mem_cons_self
 have hps:xss.length≤ps0.length:=by
  rcases Nat.eq_zero_or_pos xss.length with h0 | h0
  ·omega
  ·obtain ⟨a,ha,_⟩:=h3.2 (xss.length-1) _ (List.getElem?_eq_getElem (Nat.sub_lt h0 Nat.one_pos))
   have:=(List.getElem?_eq_some_iff.1 ha).1
   omega
 obtain ⟨ps,hpe⟩:∃ ps,ps=ps0.take xss.length:=⟨_,rfl⟩
 have hpl:xss.length=ps.length:=by rw [hpe,List.length_take]; omega
 have hpg:∀ (i:Nat) b,ps[i]?=some b→ps0[i]?=some b:=fun i b hb =>by
  rw [hpe,List.getElem?_take] at hb
  split at hb
  ·exact hb
  ·cases hb
 have hrl:(aBf xss ps).length=xss.length:=by unfold aBf; rw [List.length_zipWith]; omega
 have hsl:Sl an9 1 w w.heap.size A (aBf xss ps):=by
  refine ⟨by omega,fun hne =>?_⟩
  have hpos:0<xss.length:=by rw [← hrl]; exact List.length_pos_iff.2 hne
  obtain ⟨a0,_,_,b,o,hA,hlt,_⟩:=h3.2 0 _ (List.getElem?_eq_getElem hpos)
  refine ⟨b,o,hA,hlt,fun i x hi j u hu =>?_⟩
  unfold aBf at hi
  rw [List.getElem?_zipWith] at hi
  cases hx:xss[i]? with
  | none =>rw [hx] at hi; simp at hi
  | some xs =>
   cases hy:ps[i]? with
   | none =>rw [hx,hy] at hi; simp at hi
   | some a =>
    rw [hx,hy] at hi
    obtain rfl:=Option.some.inj hi
    obtain ⟨a',ha',_,b',o',hA',_,hc⟩:=h3.2 i xs hx
    rw [hpg i a hy] at ha'
    obtain rfl:=Option.some.inj ha'
    rw [hA] at hA'
    cases hA'
    cases j with
    | zero =>
     obtain rfl:=Option.some.inj hu
     rw [Nat.mul_one,Nat.add_zero]; exact hc
    | succ j =>simp [an9] at hu
 have hcl:=asu A cap (aBf xss ps) w hsl (by omega)
 rw [hrl] at hcl
 refine hcl.mono fun e w' ⟨⟨A',c',he,hown⟩,hb'⟩ =>⟨.slice A' xss.length c',by rw [he,hrl],hb.trans (hb'.mono hB),Nat.le_trans hB hb'.size,?_⟩
 rw [hrl] at hown
 have s3:=aoZ s2 hb' hB hown
 have s4:Sat B w' (ae2 _::[ae5 A' xss.length c' 1 ((aBf xss ps).flatMap an9),F]):=s3.perm (List.Perm.swap ..)
 have s5:=s4.imp (atR xss ps hpl fun u hu i xs a hx hy =>by
  obtain ⟨a',ha',hq,_⟩:=hu.2 i xs hx
  rw [hpg i a hy] at ha'
  obtain rfl:=Option.some.inj ha'
  exact hq)
 have s6:=aBU s5
 have s7:=ahG (A:=pcS SR1.kt (.row 18 xss) (.slice A' xss.length c')) (fun k hk =>aaI.2 (show pcW SR1.kt (obS SR1.kt) (rwS SR1.kt) (.row 18 xss) _ k from ⟨A',c',rfl,adl.2 ⟨(aBf xss ps).map an9,by
  rw [show ((aBf xss ps).map an9).flatten=(aBf xss ps).flatMap an9 from by rw [List.flatMap_def]]
  exact hk⟩⟩)) s6
 exact (s7.perm (List.Perm.swap ..)).drop
theorem aue:CO Tryz.prog aiy:=fun x out hx B W hg vs F w hw =>by
 obtain ⟨hb,hB,hs⟩:=hw
 replace hx:ah5 x.1=some out:=hx
 unfold ah5 at hx
 split at hx
 ·rename_i hl
  cases hx
  show aga Tryz.prog aiy.f _ w _
  rw [aem rfl]
  rcases vs with _ | ⟨v,_ | ⟨v2,vs⟩⟩
  ·exact aaQ hs
  ·exact (ast x.1 hl B W v F w ⟨hb,hB,hs⟩).mono fun e w' ⟨u,he,h⟩ =>⟨[u],he,h⟩
  ·replace hs:Sat B w (pcS SR1.kt (.rr 3 x.1) v::([fun _ =>False]++[F])):=hs
   exact aaQ hs.drop
 ·cases hx
end
section
open Go.RowKit
set_option maxHeartbeats 400000 in
theorem afP (a b c:Int) (w:World) :
  Calls Tryz.prog 75 #[.int .i64 a,.int .i64 b,.int .i64 c] w fun e w' =>e=.returned (.bool (inB a b c))∧w=w':=by
 unfold inB
 by_cases h:b≤a
 all_goals
  go_enter Tryz.func75,Tryz.ntmps75
  go_wp2
  go_ret
  all_goals (simp [*]<;>omega)
set_option maxHeartbeats 1000000 in
theorem ahp (c:Cfg) (l:CfgAt) (w:World) :
  Calls Tryz.prog 72 #[auG c l] w fun e w' =>e=.returned (.bool (akw c))∧Below w.heap.size w w':=by
 unfold auG akw
 by_cases hl:c.levels<8
 all_goals
  go_enter Tryz.func72,Tryz.ntmps72
  go_wp2_with (first | (go_at_call 75; refine (afP _ _ _ _).mono ?_; rintro e w' ⟨rfl,rfl⟩))
  all_goals go_ret
  all_goals simp [*]
  all_goals exact (Below.refl _ _).alloc (Nat.le_refl _) _
set_option maxHeartbeats 1000000 in
theorem anI (c:Cfg) (l:CfgAt) (x:Ins) (w:World) (h1:1≤c.levels) (h2:c.levels≤64) (hp:c.progs.length≤9223372036854775807) :
  Calls Tryz.prog 76 #[auG c l,.agg #[.int .i64 x.op,.int .i64 x.a,.int .i64 x.b]] w fun e w' =>e=.returned (.bool (aqs c.levels c.progs.length x))∧Below w.heap.size w w':=by
 unfold auG
 go_enter Tryz.func76,Tryz.ntmps76
 go_wp2_with (first | (go_at_call 75; refine (afP _ _ _ _).mono ?_; rintro e w' ⟨rfl,rfl⟩))
 all_goals go_ret
 all_goals refine ⟨aBW (by unfold aqs; simp_all),?_⟩
 all_goals exact ((Below.refl _ _).alloc (Nat.le_refl _) _).alloc (by simp) _
theorem alv {lv np:Int} {ps:List (List Ins)} {k:Nat} (hk:k<ps.length) (h:abA lv np (ps.drop k)=abA lv np ps) (hl:32<ps[k].length):abA lv np ps=2:=by
 rw [← h,List.drop_eq_getElem_cons hk]; simp [abA,hl]
theorem amJ {lv np:Int} {ps:List (List Ins)} {k j:Nat} (hk:k<ps.length) (h:abA lv np (ps.drop k)=abA lv np ps) (hl:ps[k].length≤32) (hj:j<ps[k].length) (hb:aqs lv np ps[k][j]=false):abA lv np ps=1:=by
 rw [← h,List.drop_eq_getElem_cons hk]
 have:ps[k].all (aqs lv np)=false:=by
  rw [List.all_eq_false]; exact ⟨_,List.getElem_mem hj,by simp [hb]⟩
 simp [abA,Nat.not_lt.2 hl,this]
theorem alu {lv np:Int} {ps:List (List Ins)} {k:Nat} (hk:k<ps.length) (h:abA lv np (ps.drop k)=abA lv np ps) (hl:ps[k].length≤32) (ha:(ps[k].take ps[k].length).all (aqs lv np)=true):abA lv np (ps.drop (k+1))=abA lv np ps:=by
 rw [← h,List.drop_eq_getElem_cons hk]
 rw [List.take_length] at ha
 simp [abA,Nat.not_lt.2 hl,ha]
theorem asI {α:Type} {f:α→Bool} {l:List α} {j:Nat} (hj:j<l.length) (h:(l.take j).all f=true) (hf:f l[j]=true):(l.take (j+1)).all f=true:=by
 rw [List.take_succ_eq_append_getElem hj,List.all_append,h]; simp [hf]
def aKT (lv np:Int) (ps:List (List Ins)) (k:Nat):Prop:=abA lv np (ps.drop k)=abA lv np ps
def aKM (lv np:Int) (p:List Ins) (k:Nat):Prop:=(p.take k).all (aqs lv np)=true
@[reducible] def aAB (c : Cfg) (l : CfgAt) : Obj := .cells #[.int .i64 c.workers,.int .i64 c.levels,.int .i64 c.classes,.int .i64 c.tasks,.int .i64 c.deque,.int .i64 c.heap,.int .i64 c.batch,.int .i64 c.age,.int .i64 c.patience,.slice l.pa c.progs.length l.pc,.slice l.sa c.subs.length l.sc] 28
set_option maxHeartbeats 2000000 in
theorem ajE (c:Cfg) (l:CfgAt) (w:World) (h1:1≤c.levels) (h2:c.levels≤64) (hc:amp w w.heap.size c l) :
  Calls Tryz.prog 73 #[auG c l] w fun e w' =>e=.returned (.int .i64 (adK c))∧Below w.heap.size w w':=by
 have hlen:=hc.1.1
 by_cases hp:inB (c.progs.length:Int) 1 32=true
 ·have hfin:adK c=abA c.levels c.progs.length c.progs:=by simp [adK,hp]
  have Hfin:=Lib.hid hfin
  clear hfin
  unfold auG
  go_enter Tryz.func73,Tryz.ntmps73
  go_wp2_with (first | (go_at_call 75; refine (afP _ _ _ _).mono ?_; rintro e w' ⟨rfl,rfl⟩))
  go_loopw [15] (fun i wr =>∃ k:Nat,k≤c.progs.length∧i=.int .i64 k∧aKT c.levels c.progs.length c.progs k∧Below (w.heap.size+1) (w.alloc (aAB c l)) wr) (fun i _ =>c.progs.length-(intOf i).toNat)
  case atStart =>exact ⟨0,Nat.zero_le _,rfl,rfl,Below.refl _ _⟩
  case round =>
   obtain ⟨k,hk,rfl,hi,hb⟩:=hrel
   have hB:w.heap.size<wr.heap.size:=by have:=hb.size; simp at this; omega
   have hbw:Below w.heap.size w wr:=((Below.refl _ _).alloc (Nat.le_refl _) _).trans (hb.mono (by omega))
   by_cases hlt:k<c.progs.length
   ·obtain ⟨b,o,hpa,hbb,Ai,ci,hcell,hsl⟩:=hc.1.at_ hlt
    have hln:=hsl.len
    obtain ⟨hcs,hfz⟩:=asB hb
    by_cases hlong:32<c.progs[k].length
    ·have hres:=Lib.hid (alv hlt hi hlong)
     obtain ⟨pa,pc,sa,sc⟩:=l
     obtain rfl:pa=some ⟨b,o,none⟩:=hpa
     go_wp2
     go_ret
     exact ⟨afW (by rw [Hfin.out,hres.out]),hbw⟩
    ·obtain ⟨pa,pc,sa,sc⟩:=l
     obtain rfl:pa=some ⟨b,o,none⟩:=hpa
     go_wp2
     obtain ⟨wo,rfl⟩:∃ wo:World,wo=wr:=⟨_,rfl⟩
     clear hcs hfz
     go_loopw [24] (fun i ws =>∃ j:Nat,j≤c.progs[k].length∧i=.int .i64 j∧aKM c.levels c.progs.length c.progs[k] j∧Below (w.heap.size+1) (w.alloc (aAB c ⟨some ⟨b,o,none⟩,pc,sa,sc⟩)) ws) (fun i _ =>c.progs[k].length-(intOf i).toNat)
     case atStart =>exact ⟨0,Nat.zero_le _,rfl,by simp [aKM],hb⟩
     case round =>
      obtain ⟨j,hj,rfl,hq,hb2⟩:=hrel
      have hB2:w.heap.size<wr.heap.size:=by have:=hb2.size; simp at this; omega
      have hbw2:Below w.heap.size w wr:=((Below.refl _ _).alloc (Nat.le_refl _) _).trans (hb2.mono (by omega))
      by_cases hjt:j<c.progs[k].length
      ·obtain ⟨b2,o2,hpa2,hbb2,hcc⟩:=hsl.at_ hjt
       obtain rfl:Ai=some ⟨b2,o2,none⟩:=hpa2
       obtain ⟨hcs,hfz⟩:=asB hb2
       have c0:w.cell? ⟨b2,o2+j*3,none⟩=some (.int .i64 c.progs[k][j].op):=hcc j hjt 0 _ rfl
       have c1:w.cell? ⟨b2,o2+j*3+1,none⟩=some (.int .i64 c.progs[k][j].a):=hcc j hjt 1 _ rfl
       have c2:w.cell? ⟨b2,o2+j*3+2,none⟩=some (.int .i64 c.progs[k][j].b):=hcc j hjt 2 _ rfl
       by_cases hok:aqs c.levels c.progs.length c.progs[k][j]=true
       ·go_wp2_with (first | (go_at_call 76; refine (anI c ⟨some ⟨b,o,none⟩,pc,sa,sc⟩ c.progs[k][j] _ h1 h2 hlen).mono ?_; rintro e w' ⟨rfl,hbv⟩))
        go_roundw
        case rel =>exact ⟨j+1,by omega,by go_num,asI hjt hq hok,(hb2.alloc (by omega) _).trans (hbv.mono (by simp; omega))⟩
        case measure =>simp [intOf]; omega
       ·have hok':aqs c.levels c.progs.length c.progs[k][j]=false:=by simpa using hok
        clear hok
        have hres:=Lib.hid (amJ hlt hi (by omega) hjt hok')
        go_wp2_with (first | (go_at_call 76; refine (anI c ⟨some ⟨b,o,none⟩,pc,sa,sc⟩ c.progs[k][j] _ h1 h2 hlen).mono ?_; rintro e w' ⟨rfl,hbv⟩))
        go_ret
        exact ⟨afW (by rw [Hfin.out,hres.out]),((Below.refl _ _).alloc (Nat.le_refl _) _).trans (((hb2.alloc (by omega) _).trans (hbv.mono (by simp; omega))).mono (by omega))⟩
      ·obtain ⟨hcs,hfz⟩:=asB hb2
       go_wp2
       go_roundw
       case rel =>exact ⟨k+1,by omega,by go_num,alu hlt hi (by omega) (by
        have e:j=c.progs[k].length:=by omega
        subst e; exact hq),hb2⟩
       case measure =>simp [intOf]; omega
   ·go_wp2
    go_ret
    exact ⟨afW (by
     have hi':abA c.levels c.progs.length (c.progs.drop k)=abA c.levels c.progs.length c.progs:=hi
     rw [Hfin.out,← hi',List.drop_eq_nil_of_le (by omega)]; rfl),hbw⟩
 ·have hfin:adK c=2:=by simp [adK,hp]
  have Hfin:=Lib.hid hfin
  clear hfin
  unfold auG
  go_enter Tryz.func73,Tryz.ntmps73
  go_wp2_with (first | (go_at_call 75; refine (afP _ _ _ _).mono ?_; rintro e w' ⟨rfl,rfl⟩))
  go_ret
  exact ⟨afW Hfin.out.symm,(Below.refl _ _).alloc (Nat.le_refl _) _⟩
theorem anQ {lv np:Int} {ss:List Sub} {k:Nat} (hk:k<ss.length) (h:adE lv np (ss.drop k)=adE lv np ss) {e:Int} (he:aoU lv np ss[k]=e) (hne:e≠0):adE lv np ss=e:=by
 subst he
 rw [← h,List.drop_eq_getElem_cons hk]; simp [adE,hne]
theorem amw {lv np:Int} {ss:List Sub} {k:Nat} (hk:k<ss.length) (h:adE lv np (ss.drop k)=adE lv np ss) (he:aoU lv np ss[k]=0):adE lv np (ss.drop (k+1))=adE lv np ss:=by
 rw [← h,List.drop_eq_getElem_cons hk]; simp [adE,he]
def aKS (lv np:Int) (ss:List Sub) (k:Nat):Prop:=adE lv np (ss.drop k)=adE lv np ss
set_option maxHeartbeats 2000000 in
theorem avN (c:Cfg) (l:CfgAt) (w:World) (h1:1≤c.levels) (h2:c.levels≤64) (hc:amp w w.heap.size c l) :
  Calls Tryz.prog 74 #[auG c l] w fun e w' =>e=.returned (.int .i64 (ahk c))∧Below w.heap.size w w':=by
 have hlen:=hc.1.1
 have hlen2:=hc.2.1
 by_cases hp:64<c.subs.length
 ·have hfin:ahk c=2:=by simp [ahk,hp]
  have Hfin:=Lib.hid hfin
  clear hfin
  unfold auG
  go_enter Tryz.func74,Tryz.ntmps74
  go_wp2
  go_ret
  exact ⟨afW Hfin.out.symm,(Below.refl _ _).alloc (Nat.le_refl _) _⟩
 ·have hfin:ahk c=adE c.levels c.progs.length c.subs:=by simp [ahk,hp]
  have Hfin:=Lib.hid hfin
  clear hfin
  unfold auG
  go_enter Tryz.func74,Tryz.ntmps74
  go_wp2
  go_loopw [12] (fun i wr =>∃ k:Nat,k≤c.subs.length∧i=.int .i64 k∧aKS c.levels c.progs.length c.subs k∧Below (w.heap.size+1) (w.alloc (aAB c l)) wr) (fun i _ =>c.subs.length-(intOf i).toNat)
  case atStart =>exact ⟨0,Nat.zero_le _,rfl,rfl,Below.refl _ _⟩
  case round =>
   obtain ⟨k,hk,rfl,hi,hb⟩:=hrel
   have hB:w.heap.size<wr.heap.size:=by have:=hb.size; simp at this; omega
   have hbw:Below w.heap.size w wr:=((Below.refl _ _).alloc (Nat.le_refl _) _).trans (hb.mono (by omega))
   obtain ⟨hcs,hfz⟩:=asB hb
   by_cases hlt:k<c.subs.length
   ·obtain ⟨b,o,hpa,hbb,hcc⟩:=hc.2.at_ hlt
    obtain ⟨pa,pc,sa,sc⟩:=l
    obtain rfl:sa=some ⟨b,o,none⟩:=hpa
    have c0:w.cell? ⟨b,o+k*3,none⟩=some (.int .i64 c.subs[k].prog):=hcc k hlt 0 _ rfl
    have c1:w.cell? ⟨b,o+k*3+1,none⟩=some (.int .i64 c.subs[k].level):=hcc k hlt 1 _ rfl
    have c2:w.cell? ⟨b,o+k*3+2,none⟩=some (.int .i64 c.subs[k].deadline):=hcc k hlt 2 _ rfl
    have hse:aoU c.levels c.progs.length c.subs[k]=if !inB c.subs[k].prog 0 (c.progs.length-1) then 3 else if !inB c.subs[k].level 0 (c.levels-1) || !inB c.subs[k].deadline 0 16777215 then 1 else 0:=rfl
    have Hse:=Lib.hid hse
    clear hse
    have bad:=fun e he hne =>Lib.hid (anQ (e:=e) hlt hi he hne)
    by_cases g1:inB c.subs[k].prog 0 (c.progs.length-1)=true
    ·by_cases g2:inB c.subs[k].level 0 (c.levels-1)=true
     ·by_cases g3:inB c.subs[k].deadline 0 16777215=true
      ·go_wp2_with (first | (go_at_call 75; refine (afP _ _ _ _).mono ?_; rintro e w' ⟨rfl,rfl⟩))
       go_roundw
       case rel =>exact ⟨k+1,by omega,by go_num,amw hlt hi (by rw [Hse.out]; simp [g1,g2,g3]),hb.alloc (by omega) _⟩
       case measure =>simp [intOf]; omega
      ·go_wp2_with (first | (go_at_call 75; refine (afP _ _ _ _).mono ?_; rintro e w' ⟨rfl,rfl⟩))
       go_ret
       exact ⟨afW (by rw [Hfin.out,(bad 1 (by rw [Hse.out]; simp [g1,g2,g3]) (by omega)).out]),hbw.alloc (by omega) _⟩
     ·go_wp2_with (first | (go_at_call 75; refine (afP _ _ _ _).mono ?_; rintro e w' ⟨rfl,rfl⟩))
      go_ret
      exact ⟨afW (by rw [Hfin.out,(bad 1 (by rw [Hse.out]; simp [g1,g2]) (by omega)).out]),hbw.alloc (by omega) _⟩
    ·go_wp2_with (first | (go_at_call 75; refine (afP _ _ _ _).mono ?_; rintro e w' ⟨rfl,rfl⟩))
     go_ret
     exact ⟨afW (by rw [Hfin.out,(bad 3 (by rw [Hse.out]; simp [g1]) (by omega)).out]),hbw.alloc (by omega) _⟩
   ·go_wp2
    go_ret
    exact ⟨afW (by
     have hi':adE c.levels c.progs.length (c.subs.drop k)=adE c.levels c.progs.length c.subs:=hi
     rw [Hfin.out,← hi',List.drop_eq_nil_of_le (by omega)]; rfl),hbw⟩
set_option maxHeartbeats 2000000 in
theorem auh (c:Cfg) (l:CfgAt) (w:World) (hc:amp w w.heap.size c l) :
  Calls Tryz.prog 69 #[auG c l] w fun e w' =>e=.returned (.int .i64 (afQ c))∧Below w.heap.size w w':=by
 by_cases hn:akw c=true
 ·obtain ⟨_,_,h1,h2,_⟩:=aih hn
  by_cases hp:adK c=0
  ·have hfin:afQ c=ahk c:=by simp [afQ,hn,hp]
   have Hfin:=Lib.hid hfin
   clear hfin
   unfold auG
   go_enter Tryz.func69,Tryz.ntmps69
   go_wp2_with fail
   refine (ahp c l _).mono ?_; rintro e w1 ⟨rfl,hb1⟩
   obtain ⟨hc1,hf1⟩:=asB hb1
   have hw1:=ang hb1
   go_wp2_with fail
   refine (ajE c l _ h1 h2 (hc.up hw1)).mono ?_; rintro e w2 ⟨rfl,hb2⟩
   have hw2:=ah6 hw1 hb2
   obtain ⟨hc2,hf2⟩:=asB (ah6 hb1 hb2)
   clear hc1 hf1
   go_wp2_with fail
   refine (avN c l _ h1 h2 (hc.up hw2)).mono ?_; rintro e w3 ⟨rfl,hb3⟩
   go_wp2_with fail
   go_ret
   exact ⟨afW Hfin.out.symm,ah6 hw2 hb3⟩
  ·have hfin:afQ c=adK c:=by simp [afQ,hn,hp]
   have Hfin:=Lib.hid hfin
   have hp':(adK c == 0)=false:=by simpa using hp
   clear hfin hp
   unfold auG
   go_enter Tryz.func69,Tryz.ntmps69
   go_wp2_with fail
   refine (ahp c l _).mono ?_; rintro e w1 ⟨rfl,hb1⟩
   obtain ⟨hc1,hf1⟩:=asB hb1
   have hw1:=ang hb1
   go_wp2_with fail
   refine (ajE c l _ h1 h2 (hc.up hw1)).mono ?_; rintro e w2 ⟨rfl,hb2⟩
   have hw2:=ah6 hw1 hb2
   obtain ⟨hc2,hf2⟩:=asB (ah6 hb1 hb2)
   clear hc1 hf1
   go_wp2_with fail
   go_ret
   exact ⟨afW Hfin.out.symm,hw2⟩
 ·have hfin:afQ c=1:=by simp [afQ,hn]
  have Hfin:=Lib.hid hfin
  clear hfin
  unfold auG
  go_enter Tryz.func69,Tryz.ntmps69
  go_wp2_with fail
  refine (ahp c l _).mono ?_; rintro e w1 ⟨rfl,hb1⟩
  have hw1:=ang hb1
  go_wp2_with fail
  go_ret
  exact ⟨afW Hfin.out.symm,hw1⟩
end
section
open Go Go.RowKit
variable [Tb]
theorem aGx {f:FuncId} (hf:Nat.blt f agk=true) {r:Cfg→Int} (h:∀ (c:Cfg) (l:CfgAt) (w:World),amp w w.heap.size c l→Calls Tryz.prog f #[auG c l] w fun e w' =>e=.returned (.int .i64 (r c))∧Below w.heap.size w w') :
  CO Tryz.prog (⟨f,[.val 13],[.sh sI_],fun x =>some ((r x.1,()),())⟩:Con SR1):=fun x out hx B W hg vs F w hc =>by
 obtain ⟨hb,hB,hs⟩:=hc
 replace hx:(some ((r x.1,()),()):Option ((Int×Unit)×Unit))=some out:=hx
 obtain rfl:=Option.some.inj hx
 show aga Tryz.prog f _ w _
 rw [aem hf]
 rcases vs with _ | ⟨v1,_ | ⟨v2,vs⟩⟩
 ·exact aaQ hs
 ·replace hs:Sat B w (aBs SR1 13 x.1 v1::[F]):=hs
  obtain ⟨p,rfl,hp,s1⟩:=aEX hs
  exact (h x.1 p w hp).mono fun e w' ⟨he,hb'⟩ =>⟨[.int .i64 (r x.1)],he,hb.trans (hb'.mono hB),Nat.le_trans hB hb'.size,aHk (S:=SR1) (s1.below hb')⟩
 ·replace hs:Sat B w (aBs SR1 13 x.1 v1::([fun _ =>False]++[F])):=hs
  exact aaQ hs.drop
def asw (c:Cfg):Option ((Int×Unit)×Unit):=some ((afQ c,()),())
noncomputable abbrev aq1:Con SR1:=⟨69,[.val 13],[.sh sI_],fun x =>asw x.1⟩
theorem avO:CO Tryz.prog aq1:=aGx (by kernel_rfl) auh
end
section
open Go
def aaB {α:Type} (o:Option α) (P:α→Prop):Prop:=∃ x,o=some x∧P x
section
variable {α β:Type} {o:Option α} {P Q:α→Prop} {x:α}
theorem aaB.some_ (h:P x):aaB (some x) P:=⟨x,rfl,h⟩
theorem aaB.bind {f:α→Option β} {Q:β→Prop} (h:aaB o P) (k:∀ x,P x→aaB (f x) Q):aaB (o.bind f) Q:=by
 obtain ⟨x,rfl,hx⟩:=h
 exact k x hx
theorem aaB.ite {c:Prop} [Decidable c] {a b:Option α} (h1:c→aaB a P) (h2:¬ c→aaB b P):aaB (if c then a else b) P:=by
 by_cases h:c
 ·rw [if_pos h]; exact h1 h
 ·rw [if_neg h]; exact h2 h
theorem aaB.guard {c:Prop} [Decidable c] {a b:Option α} (h:c) (k:c→aaB a P):aaB (if c then a else b) P:=by rw [if_pos h]; exact k h
theorem aaB.mono (h:aaB o P) (k:∀ x,P x→Q x):aaB o Q:=by
 obtain ⟨x,e,hx⟩:=h
 exact ⟨x,e,k x hx⟩
end
def Rg (x:Int):Prop := -9223372036854775808≤x∧x≤9223372036854775807
theorem aaM {x:Int} (h:Rg x):wi x=x:=w64 h.1 h.2
theorem aas {x:Int} (h:-1000000000000≤x∧x≤1000000000000):Rg x:=by unfold Rg; omega
theorem ayr {a b:Int} (h1:1≤b) (h2:0≤a):0≤Int.tmod a b∧Int.tmod a b<b:=⟨Int.tmod_nonneg b h2,Int.tmod_lt_of_pos a (by omega)⟩
theorem acm {σ β:Type} {F:(σ→Option β)→σ→Option β} (I:σ→Prop) (μ:σ→Nat) {P:β→Prop} (step:∀ self x,I x→(∀ y,I y→μ y<μ x→aaB (self y) P)→aaB (F self x) P):∀ k x,I x→μ x<k→aaB (lpF F k x) P
 | 0,x,_,h =>by omega
 | k+1,x,hx,h =>step (lpF F k) x hx fun y hy hlt =>acm I μ step k y hy (by omega)
theorem asD {α:Type} {d:α} {xs:List α} {i:Int} (h:0≤i∧i<(xs.length:Int)):atL d xs i∈xs:=List.mem_of_getElem? (ae0 h)
theorem anf {α β:Type} {G:Prop} [d:Decidable G] (A:Option α) (f:α→Option β):(A.bind fun r =>if G then f r else none)=if G then A.bind f else none:=by
 by_cases h:G
 ·simp only [if_pos h]
 ·simp only [if_neg h]; cases A<;>rfl
end
section
open Go.RowKit Go.Maps
set_option maxRecDepth 100000
end
section
open Go Go.RowKit
variable [Tb]
set_option maxRecDepth 100000
end
section
open Go Go.RowKit Go.Maps
set_option maxRecDepth 100000
def tzI (x:Int):Int:=IntKind.u64.wrap (bits BinOp.and IntKind.u64 x (IntKind.u64.wrap (-x))*285870213051353865) / 288230376151711744
theorem aHb (a:Int):0≤IntKind.u64.wrap a∧IntKind.u64.wrap a≤18446744073709551615:=by
 simp only [IntKind.wrap,IntKind.bits,IntKind.signed]
 simp
 omega
theorem ayp (x:Int):0≤tzI x∧tzI x<64:=by
 unfold tzI
 have h:=aHb (bits BinOp.and IntKind.u64 x (IntKind.u64.wrap (-x))*285870213051353865)
 omega
theorem aEn (w:World):Calls Tryz.prog 201 #[.int .u64 0] w fun e w' =>e=.returned (.int .i64 64)∧w'=w:=by
 go_enter Tryz.func201,Tryz.ntmps201
 go_wp2
 go_ret
 exact ⟨rfl,rfl⟩
theorem aBu (w:World) (x:Int) (h:¬ x=0) (b:Int) (hI:0≤IntKind.u64.wrap (bits BinOp.and IntKind.u64 x (IntKind.u64.wrap (-x))*285870213051353865) / 288230376151711744∧IntKind.u64.wrap (bits BinOp.and IntKind.u64 x (IntKind.u64.wrap (-x))*285870213051353865) / 288230376151711744<64) (hb:w.cell? ⟨0,(IntKind.u64.wrap (bits BinOp.and IntKind.u64 x (IntKind.u64.wrap (-x))*285870213051353865) / 288230376151711744).toNat,none⟩=some (.int .u8 b)):Calls Tryz.prog 201 #[.int .u64 x] w fun e w' =>e=.returned (.int .i64 (wrap64 b))∧w'=w:=by
 go_enter Tryz.func201,Tryz.ntmps201
 go_wp2
 go_ret
 exact ⟨rfl,rfl⟩
variable [T:Tb]
def tzV (x:Int):Int:=if x=0 then 64 else wrap64 (T.tb (tzI x).toNat)
def pTz (x:Int):Option ((Int×Unit)×Unit):=some ((tzV x,()),())
noncomputable abbrev aFl:Con SR1:=⟨201,[.sh sU_],[.sh sI_],fun x =>pTz x.1⟩
theorem aHI:CO Tryz.prog aFl:=fun x out hx B W hg vs F w hw =>by
 obtain ⟨hb,hB,hs⟩:=hw
 obtain ⟨(x:Int),u⟩:=x
 cases hx
 show aga Tryz.prog aFl.f _ w _
 rw [aem rfl]
 rcases vs with _ | ⟨v,_ | ⟨v2,vs⟩⟩
 ·exact aaQ hs
 ·have hs0:Sat B w (pcS SR1.kt (.i .u64 x) v::[F]):=hs
  have hv:v=.int .u64 x:=by
   obtain ⟨_,_,_,_,_,_,h1,_⟩:=hs0
   exact (aaI.1 h1:v=.int .u64 x)
  subst hv
  have hc:Calls Tryz.prog 201 #[.int .u64 x] w fun e w' =>e=.returned (.int .i64 (tzV x))∧w'=w:=by
   by_cases h:x=0
   ·subst h
    exact aEn w
   ·refine (aBu w x h (T.tb (tzI x).toNat) (ayp x) ?_).mono fun e w' ⟨he,hw⟩ =>⟨by rw [he]; unfold tzV; rw [if_neg h],hw⟩
    exact ((asB hb).1 0 _ hg.1).trans (hg.2 _ ((Int.toNat_lt (ayp x).1).2 (ayp x).2))
  refine hc.mono fun e w' ⟨he,hw'⟩ =>⟨[.int .i64 (tzV x)],he,?_⟩
  subst hw'
  exact ⟨hb,hB,abj (p:=pcS SR1.kt (.i .i64 (tzV x)) (.int .i64 (tzV x))) hs0.drop fun h =>aaI.2 rfl⟩
 ·replace hs:Sat B w (pcS SR1.kt (.i .u64 x) v::([fun _ =>False]++[F])):=hs
  exact aaQ hs.drop
end
section
open Go.RowKit Go.Maps
end
section
open Go Go.RowKit
variable [Tb]
end
section
open Go Go.RowKit
set_option maxRecDepth 100000
variable [Tb]
noncomputable def aJo (x:Int):Option ((Int×Unit)×(Unit)) :=
 if x=0 then
 some (((-1),()),())
 else
 (pTz x).bind fun r1 =>
 some ((r1.1.1,()),())
noncomputable abbrev aDP:Con SR1:=⟨199,[.sh sU_],[.sh sI_],fun x =>aJo x.1⟩
theorem aFo:CO Tryz.prog aDP:=aan aak Tryz.func199 [aFl] ⟨aHI,trivial⟩
noncomputable def aaw (o:OutV):Option ((Bool×Unit)×(OutV×Unit)) :=
 some ((o.ended,()),(o,()))
noncomputable abbrev abp:Con SR1:=⟨142,[.ref 23],[.sh .b],fun x =>aaw x.1⟩
theorem aa6:CO Tryz.prog abp:=aan aak Tryz.func142 [] trivial
noncomputable def abg (o:OutV) (code:Int) (value:Int):Option ((Bool×Unit)×(OutV×Unit)) :=
 some ((true,()),((⟨true,code,value⟩:OutV),()))
noncomputable abbrev acD:Con SR1:=⟨152,[.ref 23,.sh sI_,.sh sI_],[.sh .b],fun x =>abg x.1 x.2.1 x.2.2.1⟩
theorem abC:CO Tryz.prog acD:=aan aak Tryz.func152 [] trivial
noncomputable def aFm (o:OutV):Option ((Int×Int×Unit)×(OutV×Unit)) :=
 some ((o.code,o.value,()),(o,()))
noncomputable abbrev aaX:Con SR1:=⟨143,[.ref 23],[.sh sI_,.sh sI_],fun x =>aFm x.1⟩
theorem aaP:CO Tryz.prog aaX:=aan aak Tryz.func143 [] trivial
noncomputable def acz (m:MemV) (a:Int):Option ((Int×Unit)×(MemV×Unit)) :=
 if a<0 then
 some ((0,()),(m,()))
 else
 if ((m.cells.length:Nat):Int)≤a then
 some ((0,()),(m,()))
 else
 if 0≤a∧a<((m.cells.length:Nat):Int) then
 if 0≤a∧a<((m.cells.length:Nat):Int) then
 if 0≤a∧a<(((m.cells.set a.toNat (ags m.cells a)).length:Nat):Int) then
 some ((ags m.cells a,()),((⟨m.cells.set a.toNat (ags m.cells a),⟨1,a,ags m.cells a,ags (m.cells.set a.toNat (ags m.cells a)) a⟩,wi (m.count+1)⟩:MemV),()))
 else none
 else none
 else none
noncomputable abbrev acC:Con SR1:=⟨102,[.ref 9,.sh sI_],[.sh sU_],fun x =>acz x.1 x.2.1⟩
noncomputable def aCe:List (Nat×Func):=[(113,Tryz.f113),(114,Tryz.f114)]
theorem abT:CO Tryz.prog acC:=agV aak Tryz.func102 [] trivial aCe ⟨Tryz.func113,Tryz.func114,trivial⟩ (fun _ =>[]) [] fun x =>by kernel_rfl
noncomputable def aa2 (m:MemV) (a:Int) (v:Int):Option ((Unit)×(MemV×Unit)) :=
 if a<0 then
 some ((()),(m,()))
 else
 if ((m.cells.length:Nat):Int)≤a then
 some ((()),(m,()))
 else
 if 0≤a∧a<((m.cells.length:Nat):Int) then
 if 0≤a∧a<((m.cells.length:Nat):Int) then
 if 0≤a∧a<(((m.cells.set a.toNat v).length:Nat):Int) then
 some ((()),((⟨m.cells.set a.toNat v,⟨2,a,ags m.cells a,ags (m.cells.set a.toNat v) a⟩,wi (m.count+1)⟩:MemV),()))
 else none
 else none
 else none
noncomputable abbrev adL:Con SR1:=⟨105,[.ref 9,.sh sI_,.sh sU_],[],fun x =>aa2 x.1 x.2.1 x.2.2.1⟩
noncomputable def azg:List (Nat×Func):=[(113,Tryz.f113),(115,Tryz.f115)]
theorem adb:CO Tryz.prog adL:=agV aak Tryz.func105 [] trivial azg ⟨Tryz.func113,Tryz.func115,trivial⟩ (fun _ =>[]) [] fun x =>by kernel_rfl
noncomputable def asW (m:MemV) (a:Int) (old:Int) (v:Int):Option ((Bool×Unit)×(MemV×Unit)) :=
 if a<0 then
 some ((false,()),(m,()))
 else
 if ((m.cells.length:Nat):Int)≤a then
 some ((false,()),(m,()))
 else
 if 0≤a∧a<((m.cells.length:Nat):Int) then
 if (ags m.cells a)=old then
 if 0≤a∧a<((m.cells.length:Nat):Int) then
 if 0≤a∧a<(((m.cells.set a.toNat v).length:Nat):Int) then
 some ((decide ((ags m.cells a)=old),()),((⟨m.cells.set a.toNat v,⟨3,a,ags m.cells a,ags (m.cells.set a.toNat v) a⟩,wi (m.count+1)⟩:MemV),()))
 else none
 else none
 else
 if 0≤a∧a<((m.cells.length:Nat):Int) then
 if 0≤a∧a<(((m.cells.set a.toNat (ags m.cells a)).length:Nat):Int) then
 some ((decide ((ags m.cells a)=old),()),((⟨m.cells.set a.toNat (ags m.cells a),⟨3,a,ags m.cells a,ags (m.cells.set a.toNat (ags m.cells a)) a⟩,wi (m.count+1)⟩:MemV),()))
 else none
 else none
 else none
noncomputable abbrev alD:Con SR1:=⟨172,[.ref 9,.sh sI_,.sh sU_,.sh sU_],[.sh .b],fun x =>asW x.1 x.2.1 x.2.2.1 x.2.2.2.1⟩
noncomputable def aFp:List (Nat×Func):=[(113,Tryz.f113),(178,Tryz.f178)]
theorem ajo:CO Tryz.prog alD:=agV aak Tryz.func172 [] trivial aFp ⟨Tryz.func113,Tryz.func178,trivial⟩ (fun _ =>[]) [] fun x =>by kernel_rfl
noncomputable def pOr (m:MemV) (a:Int) (v:Int):Option ((Int×Unit)×(MemV×Unit)) :=
 if a<0 then
 some ((0,()),(m,()))
 else
 if ((m.cells.length:Nat):Int)≤a then
 some ((0,()),(m,()))
 else
 if 0≤a∧a<((m.cells.length:Nat):Int) then
 if 0≤a∧a<((m.cells.length:Nat):Int) then
 if 0≤a∧a<(((m.cells.set a.toNat (orU (ags m.cells a) v)).length:Nat):Int) then
 some ((ags m.cells a,()),((⟨m.cells.set a.toNat (orU (ags m.cells a) v),⟨4,a,ags m.cells a,ags (m.cells.set a.toNat (orU (ags m.cells a) v)) a⟩,wi (m.count+1)⟩:MemV),()))
 else none
 else none
 else none
noncomputable abbrev aCc:Con SR1:=⟨146,[.ref 9,.sh sI_,.sh sU_],[.sh sU_],fun x =>pOr x.1 x.2.1 x.2.2.1⟩
noncomputable def aHJ:List (Nat×Func):=[(113,Tryz.f113),(153,Tryz.f153)]
theorem azi:CO Tryz.prog aCc:=agV aak Tryz.func146 [] trivial aHJ ⟨Tryz.func113,Tryz.func153,trivial⟩ (fun _ =>[]) [] fun x =>by kernel_rfl
noncomputable def aDQ (m:MemV) (a:Int) (v:Int):Option ((Int×Unit)×(MemV×Unit)) :=
 if a<0 then
 some ((0,()),(m,()))
 else
 if ((m.cells.length:Nat):Int)≤a then
 some ((0,()),(m,()))
 else
 if 0≤a∧a<((m.cells.length:Nat):Int) then
 if 0≤a∧a<((m.cells.length:Nat):Int) then
 if 0≤a∧a<(((m.cells.set a.toNat (ani (ags m.cells a) v)).length:Nat):Int) then
 some ((ags m.cells a,()),((⟨m.cells.set a.toNat (ani (ags m.cells a) v),⟨5,a,ags m.cells a,ags (m.cells.set a.toNat (ani (ags m.cells a) v)) a⟩,wi (m.count+1)⟩:MemV),()))
 else none
 else none
 else none
noncomputable abbrev awM:Con SR1:=⟨151,[.ref 9,.sh sI_,.sh sU_],[.sh sU_],fun x =>aDQ x.1 x.2.1 x.2.2.1⟩
noncomputable def aFq:List (Nat×Func):=[(113,Tryz.f113),(155,Tryz.f155)]
theorem avf:CO Tryz.prog awM:=agV aak Tryz.func151 [] trivial aFq ⟨Tryz.func113,Tryz.func155,trivial⟩ (fun _ =>[]) [] fun x =>by kernel_rfl
noncomputable def aGP (m:MemV) (a:Int) (v:Int):Option ((Int×Unit)×(MemV×Unit)) :=
 if a<0 then
 some ((0,()),(m,()))
 else
 if ((m.cells.length:Nat):Int)≤a then
 some ((0,()),(m,()))
 else
 if 0≤a∧a<((m.cells.length:Nat):Int) then
 if 0≤a∧a<((m.cells.length:Nat):Int) then
 if 0≤a∧a<(((m.cells.set a.toNat (wu ((ags m.cells a)+v))).length:Nat):Int) then
 some ((ags m.cells a,()),((⟨m.cells.set a.toNat (wu ((ags m.cells a)+v)),⟨6,a,ags m.cells a,ags (m.cells.set a.toNat (wu ((ags m.cells a)+v))) a⟩,wi (m.count+1)⟩:MemV),()))
 else none
 else none
 else none
noncomputable abbrev awN:Con SR1:=⟨185,[.ref 9,.sh sI_,.sh sU_],[.sh sU_],fun x =>aGP x.1 x.2.1 x.2.2.1⟩
noncomputable def aFr:List (Nat×Func):=[(113,Tryz.f113),(188,Tryz.f188)]
theorem avg:CO Tryz.prog awN:=agV aak Tryz.func185 [] trivial aFr ⟨Tryz.func113,Tryz.func188,trivial⟩ (fun _ =>[]) [] fun x =>by kernel_rfl
noncomputable def arD (k:ClkV):Option ((Int×Unit)×(ClkV×Unit)) :=
 some ((k.now,()),(k,()))
noncomputable abbrev anA:Con SR1:=⟨108,[.ref 25],[.sh sI_],fun x =>arD x.1⟩
theorem akL:CO Tryz.prog anA:=aan aak Tryz.func108 [] trivial
noncomputable def aCi (k:ClkV) (n:Int):Option ((Int×Unit)×(ClkV×Unit)) :=
 if n<1 then
 some ((0,()),(k,()))
 else
 if n≠0 then
 if (Int.tmod k.draw n)<0 then
 some ((wi ((Int.tmod k.draw n)+n),()),(k,()))
 else
 some (((Int.tmod k.draw n),()),(k,()))
 else none
noncomputable abbrev azm:Con SR1:=⟨234,[.ref 25,.sh sI_],[.sh sI_],fun x =>aCi x.1 x.2.1⟩
theorem aCg:CO Tryz.prog azm:=aan aak Tryz.func234 [] trivial
noncomputable def aBe (n:Int):Option ((Int×Unit)×(Unit)) :=
 if n<0 then
 some ((0,()),())
 else
 if 63<n then
 some ((0,()),())
 else
 if 0≤wu (n) then
 some ((wu (1*2 ^ min (wu (n):Int).toNat IntKind.u64.bits),()),())
 else none
noncomputable abbrev atC:Con SR1:=⟨148,[.sh sI_],[.sh sU_],fun x =>aBe x.1⟩
theorem arI:CO Tryz.prog atC:=aan aak Tryz.func148 [] trivial
noncomputable def atz (a:Int) (n:Int):Option ((Int×Unit)×(Unit)) :=
 if n<1 then
 some ((0,()),())
 else
 if n≠0 then
 if (Int.tmod a n)<0 then
 some ((wi ((Int.tmod a n)+n),()),())
 else
 some (((Int.tmod a n),()),())
 else none
noncomputable abbrev ahR:Con SR1:=⟨24,[.sh sI_,.sh sI_],[.sh sI_],fun x =>atz x.1 x.2.1⟩
theorem afX:CO Tryz.prog ahR:=aan aak Tryz.func24 [] trivial
noncomputable def au8 (b:Int) (t:Int):Option ((Int×Unit)×(Unit)) :=
 some ((wi (wu (b-t)),()),())
noncomputable abbrev amQ:Con SR1:=⟨220,[.sh sU_,.sh sU_],[.sh sI_],fun x =>au8 x.1 x.2.1⟩
theorem alB:CO Tryz.prog amQ:=aan aak Tryz.func220 [] trivial
noncomputable def avc (q:QV) (i:Int):Option ((Int×Unit)×(Unit)) :=
 if q.cap<1 then
 some (((-1),()),())
 else
 if (wu (q.cap))≠0 then
 some ((wi (q.ring+(wi ((Int.tmod i (wu (q.cap)))))),()),())
 else none
noncomputable abbrev arG:Con SR1:=⟨221,[.val 14,.sh sU_],[.sh sI_],fun x =>avc x.1 x.2.1⟩
theorem arF:CO Tryz.prog arG:=aan aak Tryz.func221 [] trivial
noncomputable def pAt (i:Int) (n:Int) (a:Int) (w:Int):Option ((Int×Unit)×(Unit)) :=
 if i<0 then
 some (((-1),()),())
 else
 if n≤i then
 some (((-1),()),())
 else
 some ((wi (a+(wi (i*w))),()),())
noncomputable abbrev avd:Con SR1:=⟨117,[.sh sI_,.sh sI_,.sh sI_,.sh sI_],[.sh sI_],fun x =>pAt x.1 x.2.1 x.2.2.1 x.2.2.2.1⟩
theorem aqK:CO Tryz.prog avd:=aan aak Tryz.func117 [] trivial
noncomputable def aty (l:LayV) (t:Int) (f:Int):Option ((Int×Unit)×(Unit)) :=
 (pAt t l.tasks (wi (l.table+f)) 5).bind fun r1 =>
 some ((r1.1.1,()),())
noncomputable abbrev amP:Con SR1:=⟨116,[.val 24,.sh sI_,.sh sI_],[.sh sI_],fun x =>aty x.1 x.2.1 x.2.2.1⟩
theorem alz:CO Tryz.prog amP:=aan aak Tryz.func116 [avd] ⟨aqK,trivial⟩
noncomputable def aFn (l:LayV):Option ((Int×Unit)×(Unit)) :=
 some ((0,()),())
noncomputable abbrev azj:Con SR1:=⟨186,[.val 24],[.sh sI_],fun x =>aFn x.1⟩
theorem aCd:CO Tryz.prog azj:=aan aak Tryz.func186 [] trivial
noncomputable def aeC (l:LayV) (t:Int):Option ((Int×Unit)×(Unit)) :=
 (aty l t 0).bind fun r1 =>
 some ((r1.1.1,()),())
noncomputable abbrev agh:Con SR1:=⟨109,[.val 24,.sh sI_],[.sh sI_],fun x =>aeC x.1 x.2.1⟩
theorem afB:CO Tryz.prog agh:=aan aak Tryz.func109 [amP] ⟨alz,trivial⟩
noncomputable def ae6 (l:LayV) (t:Int):Option ((Int×Unit)×(Unit)) :=
 (aty l t 1).bind fun r1 =>
 some ((r1.1.1,()),())
noncomputable abbrev agi:Con SR1:=⟨106,[.val 24,.sh sI_],[.sh sI_],fun x =>ae6 x.1 x.2.1⟩
theorem afC:CO Tryz.prog agi:=aan aak Tryz.func106 [amP] ⟨alz,trivial⟩
noncomputable def aiN (l:LayV) (t:Int):Option ((Int×Unit)×(Unit)) :=
 (aty l t 4).bind fun r1 =>
 some ((r1.1.1,()),())
noncomputable abbrev ajV:Con SR1:=⟨107,[.val 24,.sh sI_],[.sh sI_],fun x =>aiN x.1 x.2.1⟩
theorem ajj:CO Tryz.prog ajV:=aan aak Tryz.func107 [amP] ⟨alz,trivial⟩
noncomputable def aji (l:LayV) (t:Int):Option ((Int×Unit)×(Unit)) :=
 (aty l t 3).bind fun r1 =>
 some ((r1.1.1,()),())
noncomputable abbrev aon:Con SR1:=⟨166,[.val 24,.sh sI_],[.sh sI_],fun x =>aji x.1 x.2.1⟩
theorem aph:CO Tryz.prog aon:=aan aak Tryz.func166 [amP] ⟨alz,trivial⟩
noncomputable def an2 (l:LayV) (t:Int):Option ((Int×Unit)×(Unit)) :=
 (aty l t 2).bind fun r1 =>
 some ((r1.1.1,()),())
noncomputable abbrev ava:Con SR1:=⟨173,[.val 24,.sh sI_],[.sh sI_],fun x =>an2 x.1 x.2.1⟩
theorem awG:CO Tryz.prog ava:=aan aak Tryz.func173 [amP] ⟨alz,trivial⟩
noncomputable def azl (l:LayV):Option ((Int×Unit)×(Unit)) :=
 some ((1,()),())
noncomputable abbrev au9:Con SR1:=⟨182,[.val 24],[.sh sI_],fun x =>azl x.1⟩
theorem awF:CO Tryz.prog au9:=aan aak Tryz.func182 [] trivial
noncomputable def af6 (l:LayV):Option ((Int×Unit)×(Unit)) :=
 some ((2,()),())
noncomputable abbrev ajX:Con SR1:=⟨103,[.val 24],[.sh sI_],fun x =>af6 x.1⟩
theorem ajn:CO Tryz.prog ajX:=aan aak Tryz.func103 [] trivial
noncomputable def an1 (l:LayV) (i:Int):Option ((Int×Unit)×(Unit)) :=
 (pAt i l.heap 4 1).bind fun r1 =>
 some ((r1.1.1,()),())
noncomputable abbrev arC:Con SR1:=⟨193,[.val 24,.sh sI_],[.sh sI_],fun x =>an1 x.1 x.2.1⟩
theorem arB:CO Tryz.prog arC:=aan aak Tryz.func193 [avd] ⟨aqK,trivial⟩
noncomputable def aqJ (l:LayV) (w:Int):Option ((Int×Unit)×(Unit)) :=
 (pAt w l.workers l.epochs 1).bind fun r1 =>
 some ((r1.1.1,()),())
noncomputable abbrev aop:Con SR1:=⟨145,[.val 24,.sh sI_],[.sh sI_],fun x =>aqJ x.1 x.2.1⟩
theorem apk:CO Tryz.prog aop:=aan aak Tryz.func145 [avd] ⟨aqK,trivial⟩
noncomputable def agJ (l:LayV) (l0:Int):Option ((Int×Unit)×(Unit)) :=
 (pAt l0 l.classes l.sleepers 1).bind fun r1 =>
 some ((r1.1.1,()),())
noncomputable abbrev akK:Con SR1:=⟨154,[.val 24,.sh sI_],[.sh sI_],fun x =>agJ x.1 x.2.1⟩
theorem anz:CO Tryz.prog akK:=aan aak Tryz.func154 [avd] ⟨aqK,trivial⟩
noncomputable def ahl (l:LayV) (w:Int):Option ((Int×Unit)×(Unit)) :=
 (pAt w l.workers l.bitmaps 1).bind fun r1 =>
 some ((r1.1.1,()),())
noncomputable abbrev agL:Con SR1:=⟨136,[.val 24,.sh sI_],[.sh sI_],fun x =>ahl x.1 x.2.1⟩
theorem agq:CO Tryz.prog agL:=aan aak Tryz.func136 [avd] ⟨aqK,trivial⟩
noncomputable def agK (l:LayV) (w:Int) (v:Int):Option ((QV×Unit)×(Unit)) :=
 (pAt w l.workers l.queues (wi (l.levels*(wi (2+l.deque))))).bind fun r1 =>
 (pAt v l.levels r1.1.1 (wi (2+l.deque))).bind fun r2 =>
 if r1.1.1<0 then
 some (((⟨(-1),(-1),(-1),0⟩:QV),()),())
 else
 if r2.1.1<0 then
 some (((⟨(-1),(-1),(-1),0⟩:QV),()),())
 else
 some (((⟨r2.1.1,wi (r2.1.1+1),wi (r2.1.1+2),l.deque⟩:QV),()),())
noncomputable abbrev ajW:Con SR1:=⟨134,[.val 24,.sh sI_,.sh sI_],[.val 14],fun x =>agK x.1 x.2.1 x.2.2.1⟩
theorem ajl:CO Tryz.prog ajW:=aan aak Tryz.func134 [avd] ⟨aqK,trivial⟩
noncomputable def arJ (l:LayV):Option ((Int×Unit)×(Unit)) :=
 some ((3,()),())
noncomputable abbrev aqM:Con SR1:=⟨92,[.val 24],[.sh sI_],fun x =>arJ x.1⟩
theorem ave:CO Tryz.prog aqM:=aan aak Tryz.func92 [] trivial
noncomputable def awL (l:LayV):Option ((Int×Unit)×(Unit)) :=
 some ((wi (l.table+(wi (5*l.tasks))),()),())
noncomputable abbrev awK:Con SR1:=⟨65,[.val 24],[.sh sI_],fun x =>awL x.1⟩
theorem azo:CO Tryz.prog awK:=aan aak Tryz.func65 [] trivial
noncomputable def aec (e:EnvP) (v:Ev):Option ((Unit)×(EnvP×Unit)) :=
 if (((e.evs.length+([v]:List Ev).length:Nat)):Int)<1000000000000 then
 some ((()),(({ e with evs:=e.evs++([v]) }:EnvP),()))
 else none
noncomputable abbrev aff:Con SR1:=⟨111,[.ref 27,.val 2],[],fun x =>aec x.1 x.2.1⟩
theorem aer:CO Tryz.prog aff:=aan aak Tryz.func111 [] trivial
noncomputable def aCb (d:Int) (a:Int) (t:Int):Option ((Int×Bool×Unit)×(Unit)) :=
 if d<0 then
 some ((0,false,()),())
 else
 if 16777215<d then
 some ((0,false,()),())
 else
 if a<0 then
 some ((0,false,()),())
 else
 if 16777215<a then
 some ((0,false,()),())
 else
 if t<0 then
 some ((0,false,()),())
 else
 if 65535<t then
 some ((0,false,()),())
 else
 some ((orU (orU (wu ((wu (d))*2 ^ min (40:Int).toNat IntKind.u64.bits)) (wu ((wu (a))*2 ^ min (16:Int).toNat IntKind.u64.bits))) (wu (t)),true,()),())
noncomputable abbrev azh:Con SR1:=⟨191,[.sh sI_,.sh sI_,.sh sI_],[.sh sU_,.sh .b],fun x =>aCb x.1 x.2.1 x.2.2.1⟩
theorem aB9:CO Tryz.prog azh:=aan aak Tryz.func191 [] trivial
noncomputable def atB (l:Int) (n:Int) (c:Int):Option ((Int×Unit)×(Unit)) :=
 if n<1 then
 some ((0,()),())
 else
 if 64<n then
 some ((0,()),())
 else
 if c<1 then
 some ((0,()),())
 else
 if 8<c then
 some ((0,()),())
 else
 if l<0 then
 some ((0,()),())
 else
 if n≤l then
 some ((0,()),())
 else
 if n≠0 then
 some ((wi (Int.tdiv (wi (l*c)) n),()),())
 else none
noncomputable abbrev awJ:Con SR1:=⟨200,[.sh sI_,.sh sI_,.sh sI_],[.sh sI_],fun x =>atB x.1 x.2.1 x.2.2.1⟩
theorem azn:CO Tryz.prog awJ:=aan aak Tryz.func200 [] trivial
noncomputable def au7 (k:Int):Option ((Int×Int×Int×Unit)×(Unit)) :=
 some ((wi (Int.fdiv k (2 ^ min (40:Int).toNat IntKind.u64.bits)),wi (ani (Int.fdiv k (2 ^ min (16:Int).toNat IntKind.u64.bits)) 16777215),wi (ani k 65535),()),())
noncomputable abbrev atx:Con SR1:=⟨257,[.sh sU_],[.sh sI_,.sh sI_,.sh sI_],fun x =>au7 x.1⟩
theorem axT:CO Tryz.prog atx:=aan aak Tryz.func257 [] trivial
noncomputable def agU (x:Int):Option ((Int×Unit)×(Unit)) :=
 if 4294967296≤x then
 if 65536≤(Int.fdiv x (2 ^ min (32:Int).toNat IntKind.u64.bits)) then
 if 256≤(Int.fdiv (Int.fdiv x (2 ^ min (32:Int).toNat IntKind.u64.bits)) (2 ^ min (16:Int).toNat IntKind.u64.bits)) then
 if 0≤IntKind.u8.wrap (Int.fdiv (Int.fdiv (Int.fdiv x (2 ^ min (32:Int).toNat IntKind.u64.bits)) (2 ^ min (16:Int).toNat IntKind.u64.bits)) (2 ^ min (8:Int).toNat IntKind.u64.bits))∧IntKind.u8.wrap (Int.fdiv (Int.fdiv (Int.fdiv x (2 ^ min (32:Int).toNat IntKind.u64.bits)) (2 ^ min (16:Int).toNat IntKind.u64.bits)) (2 ^ min (8:Int).toNat IntKind.u64.bits))<((ai7.size:Nat):Int) then
 some ((wi ((wi (56+(wi ((((ai7[(IntKind.u8.wrap (Int.fdiv (Int.fdiv (Int.fdiv x (2 ^ min (32:Int).toNat IntKind.u64.bits)) (2 ^ min (16:Int).toNat IntKind.u64.bits)) (2 ^ min (8:Int).toNat IntKind.u64.bits))).toNat]?).map fun b =>((b.toNat:Nat):Int)).getD 0)))))-1),()),())
 else none
 else
 if 0≤IntKind.u8.wrap (Int.fdiv (Int.fdiv x (2 ^ min (32:Int).toNat IntKind.u64.bits)) (2 ^ min (16:Int).toNat IntKind.u64.bits))∧IntKind.u8.wrap (Int.fdiv (Int.fdiv x (2 ^ min (32:Int).toNat IntKind.u64.bits)) (2 ^ min (16:Int).toNat IntKind.u64.bits))<((ai7.size:Nat):Int) then
 some ((wi ((wi (48+(wi ((((ai7[(IntKind.u8.wrap (Int.fdiv (Int.fdiv x (2 ^ min (32:Int).toNat IntKind.u64.bits)) (2 ^ min (16:Int).toNat IntKind.u64.bits))).toNat]?).map fun b =>((b.toNat:Nat):Int)).getD 0)))))-1),()),())
 else none
 else
 if 256≤(Int.fdiv x (2 ^ min (32:Int).toNat IntKind.u64.bits)) then
 if 0≤IntKind.u8.wrap (Int.fdiv (Int.fdiv x (2 ^ min (32:Int).toNat IntKind.u64.bits)) (2 ^ min (8:Int).toNat IntKind.u64.bits))∧IntKind.u8.wrap (Int.fdiv (Int.fdiv x (2 ^ min (32:Int).toNat IntKind.u64.bits)) (2 ^ min (8:Int).toNat IntKind.u64.bits))<((ai7.size:Nat):Int) then
 some ((wi ((wi (40+(wi ((((ai7[(IntKind.u8.wrap (Int.fdiv (Int.fdiv x (2 ^ min (32:Int).toNat IntKind.u64.bits)) (2 ^ min (8:Int).toNat IntKind.u64.bits))).toNat]?).map fun b =>((b.toNat:Nat):Int)).getD 0)))))-1),()),())
 else none
 else
 if 0≤IntKind.u8.wrap (Int.fdiv x (2 ^ min (32:Int).toNat IntKind.u64.bits))∧IntKind.u8.wrap (Int.fdiv x (2 ^ min (32:Int).toNat IntKind.u64.bits))<((ai7.size:Nat):Int) then
 some ((wi ((wi (32+(wi ((((ai7[(IntKind.u8.wrap (Int.fdiv x (2 ^ min (32:Int).toNat IntKind.u64.bits))).toNat]?).map fun b =>((b.toNat:Nat):Int)).getD 0)))))-1),()),())
 else none
 else
 if 65536≤x then
 if 256≤(Int.fdiv x (2 ^ min (16:Int).toNat IntKind.u64.bits)) then
 if 0≤IntKind.u8.wrap (Int.fdiv (Int.fdiv x (2 ^ min (16:Int).toNat IntKind.u64.bits)) (2 ^ min (8:Int).toNat IntKind.u64.bits))∧IntKind.u8.wrap (Int.fdiv (Int.fdiv x (2 ^ min (16:Int).toNat IntKind.u64.bits)) (2 ^ min (8:Int).toNat IntKind.u64.bits))<((ai7.size:Nat):Int) then
 some ((wi ((wi (24+(wi ((((ai7[(IntKind.u8.wrap (Int.fdiv (Int.fdiv x (2 ^ min (16:Int).toNat IntKind.u64.bits)) (2 ^ min (8:Int).toNat IntKind.u64.bits))).toNat]?).map fun b =>((b.toNat:Nat):Int)).getD 0)))))-1),()),())
 else none
 else
 if 0≤IntKind.u8.wrap (Int.fdiv x (2 ^ min (16:Int).toNat IntKind.u64.bits))∧IntKind.u8.wrap (Int.fdiv x (2 ^ min (16:Int).toNat IntKind.u64.bits))<((ai7.size:Nat):Int) then
 some ((wi ((wi (16+(wi ((((ai7[(IntKind.u8.wrap (Int.fdiv x (2 ^ min (16:Int).toNat IntKind.u64.bits))).toNat]?).map fun b =>((b.toNat:Nat):Int)).getD 0)))))-1),()),())
 else none
 else
 if 256≤x then
 if 0≤IntKind.u8.wrap (Int.fdiv x (2 ^ min (8:Int).toNat IntKind.u64.bits))∧IntKind.u8.wrap (Int.fdiv x (2 ^ min (8:Int).toNat IntKind.u64.bits))<((ai7.size:Nat):Int) then
 some ((wi ((wi (8+(wi ((((ai7[(IntKind.u8.wrap (Int.fdiv x (2 ^ min (8:Int).toNat IntKind.u64.bits))).toNat]?).map fun b =>((b.toNat:Nat):Int)).getD 0)))))-1),()),())
 else none
 else
 if 0≤IntKind.u8.wrap (x)∧IntKind.u8.wrap (x)<((ai7.size:Nat):Int) then
 some ((wi ((wi (0+(wi ((((ai7[(IntKind.u8.wrap (x)).toNat]?).map fun b =>((b.toNat:Nat):Int)).getD 0)))))-1),()),())
 else none
noncomputable abbrev avb:Con SR1:=⟨227,[.sh sU_],[.sh sI_],fun x =>agU x.1⟩
noncomputable def aCf:List (Nat×Func):=[(229,Tryz.f229)]
theorem awH:CO Tryz.prog avb:=agV aak Tryz.func227 [] trivial aCf ⟨Tryz.func229,trivial⟩ (fun _ =>[]) [] fun x =>by kernel_rfl
noncomputable def aeh (y0:ProbeV) (y1:Int):Option ((Bool×Unit)×(ProbeV×Unit)) :=
 ((
 if y0.next<y1 then
 if y1≠0 then
 some (decide ((Int.tmod (wi (y0.start+y0.next)) y1)=y0.worker),())
 else none
 else
 some (false,())
 ):Option (Bool×Unit)).bind fun z1 =>
 if z1.1=true then
 some ((decide (y1≤(wi (y0.next+1))),()),(({ y0 with next:=wi (y0.next+1) }:ProbeV),()))
 else
 some ((decide (y1≤y0.next),()),(y0,()))
noncomputable abbrev aiM:Con SR1:=⟨235,[.ref 46,.sh sI_],[.sh .b],fun x =>aeh x.1 x.2.1⟩
theorem amM:CO Tryz.prog aiM:=aan aak Tryz.func235 [] trivial [(2,.cut [.rg 28 .b] [0])]
noncomputable def abl (y0:ProbeV) (y1:EnvP):Option ((Bool×Unit)×(ProbeV×EnvP×Unit)) :=
 (aaw y0.o).bind fun r1 =>
 if r1.1.1=true then
 some ((true,()),(({ y0 with o:=r1.2.1 }:ProbeV),y1,()))
 else
 ((
 if (!y0.begun)=true then
 (aCi y1.k (if 16<y1.c.workers then 16 else y1.c.workers)).bind fun r2 =>
 some (({ y0 with o:=r1.2.1,begun:=true,start:=r2.1.1 }:ProbeV),({ y1 with k:=r2.2.1 }:EnvP),())
 else
 some (({ y0 with o:=r1.2.1 }:ProbeV),y1,())
 ):Option (ProbeV×EnvP×Unit)).bind fun z3 =>
 (aeh z3.1 (if 16<y1.c.workers then 16 else y1.c.workers)).bind fun r4 =>
 if r4.1.1=true then
 (abg r4.2.1.o 2 0).bind fun r5 =>
 some ((r5.1.1,()),(({ r4.2.1 with o:=r5.2.1 }:ProbeV),z3.2.1,()))
 else
 if (if 16<y1.c.workers then 16 else y1.c.workers)≠0 then
 ((
 (ahl z3.2.1.l (Int.tmod (wi (r4.2.1.start+r4.2.1.next)) (if 16<y1.c.workers then 16 else y1.c.workers))).bind fun r6 =>
 (acz z3.2.1.m r6.1.1).bind fun r7 =>
 if (Int.tmod (wi (r4.2.1.start+r4.2.1.next)) (if 16<y1.c.workers then 16 else y1.c.workers))=((15:Nat):Int) then
 some (({ r4.2.1 with bm:={ r4.2.1.bm with b15:=r7.1.1 } }:ProbeV),({ z3.2.1 with m:=r7.2.1 }:EnvP),())
 else
 if (Int.tmod (wi (r4.2.1.start+r4.2.1.next)) (if 16<y1.c.workers then 16 else y1.c.workers))=((14:Nat):Int) then
 some (({ r4.2.1 with bm:={ r4.2.1.bm with b14:=r7.1.1 } }:ProbeV),({ z3.2.1 with m:=r7.2.1 }:EnvP),())
 else
 if (Int.tmod (wi (r4.2.1.start+r4.2.1.next)) (if 16<y1.c.workers then 16 else y1.c.workers))=((13:Nat):Int) then
 some (({ r4.2.1 with bm:={ r4.2.1.bm with b13:=r7.1.1 } }:ProbeV),({ z3.2.1 with m:=r7.2.1 }:EnvP),())
 else
 if (Int.tmod (wi (r4.2.1.start+r4.2.1.next)) (if 16<y1.c.workers then 16 else y1.c.workers))=((12:Nat):Int) then
 some (({ r4.2.1 with bm:={ r4.2.1.bm with b12:=r7.1.1 } }:ProbeV),({ z3.2.1 with m:=r7.2.1 }:EnvP),())
 else
 if (Int.tmod (wi (r4.2.1.start+r4.2.1.next)) (if 16<y1.c.workers then 16 else y1.c.workers))=((11:Nat):Int) then
 some (({ r4.2.1 with bm:={ r4.2.1.bm with b11:=r7.1.1 } }:ProbeV),({ z3.2.1 with m:=r7.2.1 }:EnvP),())
 else
 if (Int.tmod (wi (r4.2.1.start+r4.2.1.next)) (if 16<y1.c.workers then 16 else y1.c.workers))=((10:Nat):Int) then
 some (({ r4.2.1 with bm:={ r4.2.1.bm with b10:=r7.1.1 } }:ProbeV),({ z3.2.1 with m:=r7.2.1 }:EnvP),())
 else
 if (Int.tmod (wi (r4.2.1.start+r4.2.1.next)) (if 16<y1.c.workers then 16 else y1.c.workers))=((9:Nat):Int) then
 some (({ r4.2.1 with bm:={ r4.2.1.bm with b9:=r7.1.1 } }:ProbeV),({ z3.2.1 with m:=r7.2.1 }:EnvP),())
 else
 if (Int.tmod (wi (r4.2.1.start+r4.2.1.next)) (if 16<y1.c.workers then 16 else y1.c.workers))=((8:Nat):Int) then
 some (({ r4.2.1 with bm:={ r4.2.1.bm with b8:=r7.1.1 } }:ProbeV),({ z3.2.1 with m:=r7.2.1 }:EnvP),())
 else
 if (Int.tmod (wi (r4.2.1.start+r4.2.1.next)) (if 16<y1.c.workers then 16 else y1.c.workers))=((7:Nat):Int) then
 some (({ r4.2.1 with bm:={ r4.2.1.bm with b7:=r7.1.1 } }:ProbeV),({ z3.2.1 with m:=r7.2.1 }:EnvP),())
 else
 if (Int.tmod (wi (r4.2.1.start+r4.2.1.next)) (if 16<y1.c.workers then 16 else y1.c.workers))=((6:Nat):Int) then
 some (({ r4.2.1 with bm:={ r4.2.1.bm with b6:=r7.1.1 } }:ProbeV),({ z3.2.1 with m:=r7.2.1 }:EnvP),())
 else
 if (Int.tmod (wi (r4.2.1.start+r4.2.1.next)) (if 16<y1.c.workers then 16 else y1.c.workers))=((5:Nat):Int) then
 some (({ r4.2.1 with bm:={ r4.2.1.bm with b5:=r7.1.1 } }:ProbeV),({ z3.2.1 with m:=r7.2.1 }:EnvP),())
 else
 if (Int.tmod (wi (r4.2.1.start+r4.2.1.next)) (if 16<y1.c.workers then 16 else y1.c.workers))=((4:Nat):Int) then
 some (({ r4.2.1 with bm:={ r4.2.1.bm with b4:=r7.1.1 } }:ProbeV),({ z3.2.1 with m:=r7.2.1 }:EnvP),())
 else
 if (Int.tmod (wi (r4.2.1.start+r4.2.1.next)) (if 16<y1.c.workers then 16 else y1.c.workers))=((3:Nat):Int) then
 some (({ r4.2.1 with bm:={ r4.2.1.bm with b3:=r7.1.1 } }:ProbeV),({ z3.2.1 with m:=r7.2.1 }:EnvP),())
 else
 if (Int.tmod (wi (r4.2.1.start+r4.2.1.next)) (if 16<y1.c.workers then 16 else y1.c.workers))=((2:Nat):Int) then
 some (({ r4.2.1 with bm:={ r4.2.1.bm with b2:=r7.1.1 } }:ProbeV),({ z3.2.1 with m:=r7.2.1 }:EnvP),())
 else
 if (Int.tmod (wi (r4.2.1.start+r4.2.1.next)) (if 16<y1.c.workers then 16 else y1.c.workers))=((1:Nat):Int) then
 some (({ r4.2.1 with bm:={ r4.2.1.bm with b1:=r7.1.1 } }:ProbeV),({ z3.2.1 with m:=r7.2.1 }:EnvP),())
 else
 if (Int.tmod (wi (r4.2.1.start+r4.2.1.next)) (if 16<y1.c.workers then 16 else y1.c.workers))=((0:Nat):Int) then
 some (({ r4.2.1 with bm:={ r4.2.1.bm with b0:=r7.1.1 } }:ProbeV),({ z3.2.1 with m:=r7.2.1 }:EnvP),())
 else
 none
 ):Option (ProbeV×EnvP×Unit)).bind fun z8 =>
 (aeh ({ z8.1 with next:=wi (z8.1.next+1) }:ProbeV) (if 16<y1.c.workers then 16 else y1.c.workers)).bind fun r9 =>
 if (!r9.1.1)=true then
 some ((false,()),(r9.2.1,z8.2.1,()))
 else
 if 0≤(if 16<y1.c.workers then 16 else y1.c.workers)∧(if 16<y1.c.workers then 16 else y1.c.workers)≤((16:Nat):Int) then
 (lpF (σ:=Int×Int×Int×ProbeV×Unit) (β:=Int×Int×Int×ProbeV×Unit) (fun self12 x10 =>
 if x10.2.2.1<((((if 16<y1.c.workers then 16 else y1.c.workers)).toNat:Nat):Int) then
 (atz r9.2.1.start ((((if 16<y1.c.workers then 16 else y1.c.workers)).toNat:Nat):Int)).bind fun r13 =>
 if ((((if 16<y1.c.workers then 16 else y1.c.workers)).toNat:Nat):Int)≠0 then
 ((
 if (Int.tmod (wi (r13.1.1+x10.2.2.1)) ((((if 16<y1.c.workers then 16 else y1.c.workers)).toNat:Nat):Int))<(if 16<y1.c.workers then 16 else y1.c.workers) then
 if (Int.tmod (wi (r13.1.1+x10.2.2.1)) ((((if 16<y1.c.workers then 16 else y1.c.workers)).toNat:Nat):Int))=((15:Nat):Int) then
 (agU x10.2.2.2.1.bm.b15).bind fun r14 =>
 some (r14.1.1,x10.2.2.2.1,())
 else
 if (Int.tmod (wi (r13.1.1+x10.2.2.1)) ((((if 16<y1.c.workers then 16 else y1.c.workers)).toNat:Nat):Int))=((14:Nat):Int) then
 (agU x10.2.2.2.1.bm.b14).bind fun r15 =>
 some (r15.1.1,x10.2.2.2.1,())
 else
 if (Int.tmod (wi (r13.1.1+x10.2.2.1)) ((((if 16<y1.c.workers then 16 else y1.c.workers)).toNat:Nat):Int))=((13:Nat):Int) then
 (agU x10.2.2.2.1.bm.b13).bind fun r16 =>
 some (r16.1.1,x10.2.2.2.1,())
 else
 if (Int.tmod (wi (r13.1.1+x10.2.2.1)) ((((if 16<y1.c.workers then 16 else y1.c.workers)).toNat:Nat):Int))=((12:Nat):Int) then
 (agU x10.2.2.2.1.bm.b12).bind fun r17 =>
 some (r17.1.1,x10.2.2.2.1,())
 else
 if (Int.tmod (wi (r13.1.1+x10.2.2.1)) ((((if 16<y1.c.workers then 16 else y1.c.workers)).toNat:Nat):Int))=((11:Nat):Int) then
 (agU x10.2.2.2.1.bm.b11).bind fun r18 =>
 some (r18.1.1,x10.2.2.2.1,())
 else
 if (Int.tmod (wi (r13.1.1+x10.2.2.1)) ((((if 16<y1.c.workers then 16 else y1.c.workers)).toNat:Nat):Int))=((10:Nat):Int) then
 (agU x10.2.2.2.1.bm.b10).bind fun r19 =>
 some (r19.1.1,x10.2.2.2.1,())
 else
 if (Int.tmod (wi (r13.1.1+x10.2.2.1)) ((((if 16<y1.c.workers then 16 else y1.c.workers)).toNat:Nat):Int))=((9:Nat):Int) then
 (agU x10.2.2.2.1.bm.b9).bind fun r20 =>
 some (r20.1.1,x10.2.2.2.1,())
 else
 if (Int.tmod (wi (r13.1.1+x10.2.2.1)) ((((if 16<y1.c.workers then 16 else y1.c.workers)).toNat:Nat):Int))=((8:Nat):Int) then
 (agU x10.2.2.2.1.bm.b8).bind fun r21 =>
 some (r21.1.1,x10.2.2.2.1,())
 else
 if (Int.tmod (wi (r13.1.1+x10.2.2.1)) ((((if 16<y1.c.workers then 16 else y1.c.workers)).toNat:Nat):Int))=((7:Nat):Int) then
 (agU x10.2.2.2.1.bm.b7).bind fun r22 =>
 some (r22.1.1,x10.2.2.2.1,())
 else
 if (Int.tmod (wi (r13.1.1+x10.2.2.1)) ((((if 16<y1.c.workers then 16 else y1.c.workers)).toNat:Nat):Int))=((6:Nat):Int) then
 (agU x10.2.2.2.1.bm.b6).bind fun r23 =>
 some (r23.1.1,x10.2.2.2.1,())
 else
 if (Int.tmod (wi (r13.1.1+x10.2.2.1)) ((((if 16<y1.c.workers then 16 else y1.c.workers)).toNat:Nat):Int))=((5:Nat):Int) then
 (agU x10.2.2.2.1.bm.b5).bind fun r24 =>
 some (r24.1.1,x10.2.2.2.1,())
 else
 if (Int.tmod (wi (r13.1.1+x10.2.2.1)) ((((if 16<y1.c.workers then 16 else y1.c.workers)).toNat:Nat):Int))=((4:Nat):Int) then
 (agU x10.2.2.2.1.bm.b4).bind fun r25 =>
 some (r25.1.1,x10.2.2.2.1,())
 else
 if (Int.tmod (wi (r13.1.1+x10.2.2.1)) ((((if 16<y1.c.workers then 16 else y1.c.workers)).toNat:Nat):Int))=((3:Nat):Int) then
 (agU x10.2.2.2.1.bm.b3).bind fun r26 =>
 some (r26.1.1,x10.2.2.2.1,())
 else
 if (Int.tmod (wi (r13.1.1+x10.2.2.1)) ((((if 16<y1.c.workers then 16 else y1.c.workers)).toNat:Nat):Int))=((2:Nat):Int) then
 (agU x10.2.2.2.1.bm.b2).bind fun r27 =>
 some (r27.1.1,x10.2.2.2.1,())
 else
 if (Int.tmod (wi (r13.1.1+x10.2.2.1)) ((((if 16<y1.c.workers then 16 else y1.c.workers)).toNat:Nat):Int))=((1:Nat):Int) then
 (agU x10.2.2.2.1.bm.b1).bind fun r28 =>
 some (r28.1.1,x10.2.2.2.1,())
 else
 if (Int.tmod (wi (r13.1.1+x10.2.2.1)) ((((if 16<y1.c.workers then 16 else y1.c.workers)).toNat:Nat):Int))=((0:Nat):Int) then
 (agU x10.2.2.2.1.bm.b0).bind fun r29 =>
 some (r29.1.1,x10.2.2.2.1,())
 else
 none
 else none
 ):Option (Int×ProbeV×Unit)).bind fun z30 =>
 if (Int.tmod (wi (r13.1.1+x10.2.2.1)) ((((if 16<y1.c.workers then 16 else y1.c.workers)).toNat:Nat):Int))≠r9.2.1.worker then
 if x10.2.1<z30.1 then
 self12 ((Int.tmod (wi (r13.1.1+x10.2.2.1)) ((((if 16<y1.c.workers then 16 else y1.c.workers)).toNat:Nat):Int)),z30.1,wi (x10.2.2.1+1),z30.2.1,())
 else
 self12 (x10.1,x10.2.1,wi (x10.2.2.1+1),z30.2.1,())
 else
 self12 (x10.1,x10.2.1,wi (x10.2.2.1+1),z30.2.1,())
 else none
 else
 some (x10.1,x10.2.1,x10.2.2.1,x10.2.2.2.1,())
 ) 18446744073709551616 ((-1),(-1),0,r9.2.1,())).bind fun z11 =>
 if z11.1<0 then
 (abg z11.2.2.2.1.o 2 0).bind fun r31 =>
 some ((r31.1.1,()),(({ z11.2.2.2.1 with o:=r31.2.1 }:ProbeV),z8.2.1,()))
 else
 (abg z11.2.2.2.1.o 1 (wi ((wi (z11.1*64))+z11.2.1))).bind fun r32 =>
 some ((r32.1.1,()),(({ z11.2.2.2.1 with o:=r32.2.1 }:ProbeV),z8.2.1,()))
 else none
 else none
noncomputable abbrev anW:Con SR1:=⟨233,[.ref 46,.ref 27],[.sh .b],fun x =>abl x.1 x.2.1⟩
noncomputable def amK:List (Nat×Func):=[(236,Tryz.f236)]
theorem amL:CO Tryz.prog anW:=agV aak Tryz.func233 [abp,azm,aiM,acD,agL,acC,ahR,avb] ⟨aa6,aCg,amM,abC,agq,abT,afX,awH,trivial⟩ amK ⟨Tryz.func236,trivial⟩ (fun f =>(get [(236,[(4,.loop [.rg 6 sI_,.rg 7 sI_,.rg 15 sI_,.ob 0 46] 18446744073709551616 0),(8,.cut [.rg 11 sI_,.ob 0 46] [])])] f).getD []) [(6,.cut [.ob 0 46,.ob 1 27] []),(10,.cut [.ob 0 46,.ob 1 27] [])] fun x =>by kernel_rfl
noncomputable def afb (y0:EnvP) (y1:Int):Option ((Bool×Unit)×(EnvP×Unit)) :=
 if 0≤y1 then
 some ((decide (y1<y0.c.tasks),()),(y0,()))
 else
 some ((false,()),(y0,()))
noncomputable abbrev agb:Con SR1:=⟨187,[.ref 27,.sh sI_],[.sh .b],fun x =>afb x.1 x.2.1⟩
theorem ahj:CO Tryz.prog agb:=aan aak Tryz.func187 [] trivial
noncomputable def ab1 (y0:AllocV) (y1:EnvP):Option ((Bool×Unit)×(AllocV×EnvP×Unit)) :=
 (aaw y0.o).bind fun r1 =>
 if r1.1.1=true then
 some ((true,()),((⟨r1.2.1⟩:AllocV),y1,()))
 else
 (aFn y1.l).bind fun r2 =>
 (aGP y1.m r2.1.1 1).bind fun r3 =>
 (afb ({ y1 with m:=r3.2.1 }:EnvP) (wi (r3.1.1))).bind fun r4 =>
 if (!r4.1.1)=true then
 (abg r1.2.1 3 0).bind fun r5 =>
 some ((r5.1.1,()),((⟨r5.2.1⟩:AllocV),r4.2.1,()))
 else
 (abg r1.2.1 1 (wi (r3.1.1))).bind fun r6 =>
 some ((r6.1.1,()),((⟨r6.2.1⟩:AllocV),r4.2.1,()))
noncomputable abbrev akH:Con SR1:=⟨184,[.ref 35,.ref 27],[.sh .b],fun x =>ab1 x.1 x.2.1⟩
theorem akf:CO Tryz.prog akH:=aan aak Tryz.func184 [abp,azj,awN,agb,acD] ⟨aa6,aCd,avg,ahj,abC,trivial⟩
noncomputable def abR (y0:PublishV) (y1:EnvP):Option ((Bool×Unit)×(PublishV×EnvP×Unit)) :=
 (aaw y0.o).bind fun r1 =>
 if r1.1.1=true then
 some ((true,()),(({ y0 with o:=r1.2.1 }:PublishV),y1,()))
 else
 (afb y1 y0.task).bind fun r2 =>
 if (!r2.1.1)=true then
 (abg r1.2.1 4 0).bind fun r3 =>
 some ((r3.1.1,()),(({ y0 with o:=r3.2.1 }:PublishV),r2.2.1,()))
 else
 if y0.line=1 then
 (ae6 r2.2.1.l y0.task).bind fun r4 =>
 if y0.level=y0.level then
 (aa2 r2.2.1.m r4.1.1 (wu (y0.level))).bind fun r5 =>
 some ((false,()),(({ y0 with o:=r1.2.1,line:=wi (y0.line+1) }:PublishV),({ r2.2.1 with m:=r5.2.1 }:EnvP),()))
 else none
 else
 if y0.line=2 then
 (aiN r2.2.1.l y0.task).bind fun r6 =>
 (arD r2.2.1.k).bind fun r7 =>
 (aa2 r2.2.1.m r6.1.1 (wu (r7.1.1))).bind fun r8 =>
 some ((false,()),(({ y0 with o:=r1.2.1,line:=wi (y0.line+1) }:PublishV),({ r2.2.1 with m:=r8.2.1,k:=r7.2.1 }:EnvP),()))
 else
 (aeC r2.2.1.l y0.task).bind fun r9 =>
 (aa2 r2.2.1.m r9.1.1 1).bind fun r10 =>
 (abg r1.2.1 0 0).bind fun r11 =>
 some ((r11.1.1,()),(({ y0 with o:=r11.2.1 }:PublishV),({ r2.2.1 with m:=r10.2.1 }:EnvP),()))
noncomputable abbrev ala:Con SR1:=⟨250,[.ref 50,.ref 27],[.sh .b],fun x =>abR x.1 x.2.1⟩
theorem akG:CO Tryz.prog ala:=aan aak Tryz.func250 [abp,agb,acD,agi,adL,ajV,anA,agh] ⟨aa6,ahj,abC,afC,adb,ajj,akL,afB,trivial⟩
noncomputable def ac2 (y0:ClaimV) (y1:EnvP):Option ((Bool×Unit)×(ClaimV×EnvP×Unit)) :=
 (aaw y0.o).bind fun r1 =>
 if r1.1.1=true then
 some ((true,()),(({ y0 with o:=r1.2.1 }:ClaimV),y1,()))
 else
 if y0.task=y0.task then
 if y0.worker=y0.worker then
 (aeC y1.l y0.task).bind fun r2 =>
 (asW y1.m r2.1.1 1 2).bind fun r3 =>
 if (!r3.1.1)=true then
 (aec ({ y1 with m:=r3.2.1 }:EnvP) ({ y0 with kind:=15,other:=0,level:=0 }:Ev)).bind fun r4 =>
 (abg r1.2.1 4 0).bind fun r5 =>
 some ((r5.1.1,()),(({ y0 with o:=r5.2.1 }:ClaimV),r4.2.1,()))
 else
 if 0≤y0.task∧y0.task<((y1.recs.length:Nat):Int) then
 if (aab y1.recs y0.task).started=true then
 (aec ({ y1 with m:=r3.2.1 }:EnvP) ({ y0 with kind:=9,other:=0,level:=0 }:Ev)).bind fun r6 =>
 (abg r1.2.1 1 y0.task).bind fun r7 =>
 some ((r7.1.1,()),(({ y0 with o:=r7.2.1 }:ClaimV),r6.2.1,()))
 else
 (aec ({ y1 with m:=r3.2.1,recs:=y1.recs.set y0.task.toNat ({ aab y1.recs y0.task with started:=true }:RecP) }:EnvP) ({ y0 with kind:=5,other:=0,level:=0 }:Ev)).bind fun r8 =>
 (abg r1.2.1 1 y0.task).bind fun r9 =>
 some ((r9.1.1,()),(({ y0 with o:=r9.2.1 }:ClaimV),r8.2.1,()))
 else none
 else none
 else none
noncomputable abbrev anP:Con SR1:=⟨231,[.ref 45,.ref 27],[.sh .b],fun x =>ac2 x.1 x.2.1⟩
theorem amv:CO Tryz.prog anP:=aan aak Tryz.func231 [abp,agh,alD,aff,acD] ⟨aa6,afB,ajo,aer,abC,trivial⟩
noncomputable def acG (y0:AttemptV) (y1:EnvP):Option ((Bool×Unit)×(AttemptV×EnvP×Unit)) :=
 (aaw y0.o).bind fun r1 =>
 if r1.1.1=true then
 some ((true,()),(({ y0 with o:=r1.2.1 }:AttemptV),y1,()))
 else
 (azl y1.l).bind fun r2 =>
 if y0.owner=y0.owner then
 (asW y1.m r2.1.1 0 (wu (wi (y0.owner+1)))).bind fun r3 =>
 if r3.1.1=true then
 (abg r1.2.1 1 0).bind fun r4 =>
 some ((r4.1.1,()),(({ y0 with o:=r4.2.1 }:AttemptV),({ y1 with m:=r3.2.1 }:EnvP),()))
 else
 if y0.once=true then
 (abg r1.2.1 5 0).bind fun r5 =>
 some ((r5.1.1,()),(({ y0 with o:=r5.2.1 }:AttemptV),({ y1 with m:=r3.2.1 }:EnvP),()))
 else
 some ((false,()),(({ y0 with o:=r1.2.1 }:AttemptV),({ y1 with m:=r3.2.1 }:EnvP),()))
 else none
noncomputable abbrev amZ:Con SR1:=⟨181,[.ref 34,.ref 27],[.sh .b],fun x =>acG x.1 x.2.1⟩
theorem alN:CO Tryz.prog amZ:=aan aak Tryz.func181 [abp,au9,alD,acD] ⟨aa6,awF,ajo,abC,trivial⟩
noncomputable def acF (y0:ReleaseV) (y1:EnvP):Option ((Bool×Unit)×(ReleaseV×EnvP×Unit)) :=
 (aaw y0.o).bind fun r1 =>
 if r1.1.1=true then
 some ((true,()),((⟨r1.2.1⟩:ReleaseV),y1,()))
 else
 (azl y1.l).bind fun r2 =>
 (aa2 y1.m r2.1.1 0).bind fun r3 =>
 (abg r1.2.1 0 0).bind fun r4 =>
 some ((r4.1.1,()),((⟨r4.2.1⟩:ReleaseV),({ y1 with m:=r3.2.1 }:EnvP),()))
noncomputable abbrev amY:Con SR1:=⟨195,[.ref 37,.ref 27],[.sh .b],fun x =>acF x.1 x.2.1⟩
theorem alM:CO Tryz.prog amY:=aan aak Tryz.func195 [abp,au9,adL,acD] ⟨aa6,awF,adb,abC,trivial⟩
noncomputable def adq (y0:OPushV) (y1:EnvP):Option ((Bool×Unit)×(OPushV×EnvP×Unit)) :=
 (aaw y0.o).bind fun r1 =>
 if r1.1.1=true then
 some ((true,()),(({ y0 with o:=r1.2.1 }:OPushV),y1,()))
 else
 if y0.line=1 then
 (acz y1.m y0.q.bottom).bind fun r2 =>
 some ((false,()),(({ y0 with o:=r1.2.1,line:=wi (y0.line+1),b:=r2.1.1 }:OPushV),({ y1 with m:=r2.2.1 }:EnvP),()))
 else
 if y0.line=2 then
 (acz y1.m y0.q.top).bind fun r3 =>
 (au8 y0.b r3.1.1).bind fun r4 =>
 if y0.q.cap=y0.q.cap then
 if y0.q.cap≤r4.1.1 then
 (abg r1.2.1 3 0).bind fun r5 =>
 some ((r5.1.1,()),(({ y0 with o:=r5.2.1 }:OPushV),({ y1 with m:=r3.2.1 }:EnvP),()))
 else
 some ((false,()),(({ y0 with o:=r1.2.1,line:=wi (y0.line+1) }:OPushV),({ y1 with m:=r3.2.1 }:EnvP),()))
 else none
 else
 if y0.line=3 then
 (avc y0.q y0.b).bind fun r6 =>
 if y0.value=y0.value then
 (aa2 y1.m r6.1.1 (wu (y0.value))).bind fun r7 =>
 some ((false,()),(({ y0 with o:=r1.2.1,line:=wi (y0.line+1) }:OPushV),({ y1 with m:=r7.2.1 }:EnvP),()))
 else none
 else
 (aa2 y1.m y0.q.bottom (wu (y0.b+1))).bind fun r8 =>
 (abg r1.2.1 0 0).bind fun r9 =>
 some ((r9.1.1,()),(({ y0 with o:=r9.2.1 }:OPushV),({ y1 with m:=r8.2.1 }:EnvP),()))
noncomputable abbrev apn:Con SR1:=⟨262,[.ref 53,.ref 27],[.sh .b],fun x =>adq x.1 x.2.1⟩
theorem an3:CO Tryz.prog apn:=aan aak Tryz.func262 [abp,acC,amQ,acD,arG,adL] ⟨aa6,abT,alB,abC,arF,adb,trivial⟩
noncomputable def ahm (y0:OPopV) (y1:EnvP):Option ((Int×Unit)×(OPopV×EnvP×Unit)) :=
 (acz y1.m y0.q.top).bind fun r1 =>
 (au8 (wu (y0.b-1)) r1.1.1).bind fun r2 =>
 if 0<r2.1.1 then
 some ((5,()),(({ y0 with t:=r1.1.1 }:OPopV),({ y1 with m:=r1.2.1 }:EnvP),()))
 else
 if r2.1.1=0 then
 some ((6,()),(({ y0 with t:=r1.1.1 }:OPopV),({ y1 with m:=r1.2.1 }:EnvP),()))
 else
 some ((9,()),(({ y0 with t:=r1.1.1 }:OPopV),({ y1 with m:=r1.2.1 }:EnvP),()))
noncomputable abbrev aiO:Con SR1:=⟨260,[.ref 52,.ref 27],[.sh sI_],fun x =>ahm x.1 x.2.1⟩
theorem amT:CO Tryz.prog aiO:=aan aak Tryz.func260 [acC,amQ] ⟨abT,alB,trivial⟩
noncomputable def adS (y0:OPopV) (y1:EnvP):Option ((Bool×Unit)×(OPopV×EnvP×Unit)) :=
 (aaw y0.o).bind fun r1 =>
 if r1.1.1=true then
 some ((true,()),(({ y0 with o:=r1.2.1 }:OPopV),y1,()))
 else
 if y0.line=1 then
 (acz y1.m y0.q.bottom).bind fun r2 =>
 some ((false,()),(({ y0 with o:=r1.2.1,line:=wi (y0.line+1),b:=r2.1.1 }:OPopV),({ y1 with m:=r2.2.1 }:EnvP),()))
 else
 if y0.line=2 then
 (acz y1.m y0.q.top).bind fun r3 =>
 (au8 y0.b r3.1.1).bind fun r4 =>
 if r4.1.1≤0 then
 (abg r1.2.1 2 0).bind fun r5 =>
 some ((r5.1.1,()),(({ y0 with o:=r5.2.1,t:=r3.1.1 }:OPopV),({ y1 with m:=r3.2.1 }:EnvP),()))
 else
 some ((false,()),(({ y0 with o:=r1.2.1,line:=wi (y0.line+1),t:=r3.1.1 }:OPopV),({ y1 with m:=r3.2.1 }:EnvP),()))
 else
 if y0.line=3 then
 (aa2 y1.m y0.q.bottom (wu (y0.b-1))).bind fun r6 =>
 some ((false,()),(({ y0 with o:=r1.2.1,line:=wi (y0.line+1) }:OPopV),({ y1 with m:=r6.2.1 }:EnvP),()))
 else
 if y0.line=4 then
 (ahm ({ y0 with o:=r1.2.1 }:OPopV) y1).bind fun r7 =>
 some ((false,()),(({ r7.2.1 with line:=r7.1.1 }:OPopV),r7.2.2.1,()))
 else
 if y0.line=5 then
 if y0.line=5 then
 (avc y0.q (wu (y0.b-1))).bind fun r8 =>
 (acz y1.m r8.1.1).bind fun r9 =>
 (abg r1.2.1 1 (wi (r9.1.1))).bind fun r10 =>
 some ((r10.1.1,()),(({ y0 with o:=r10.2.1 }:OPopV),({ y1 with m:=r9.2.1 }:EnvP),()))
 else
 if y0.line=6 then
 (asW y1.m y0.q.top y0.t (wu (y0.t+1))).bind fun r11 =>
 if (!r11.1.1)=true then
 some ((false,()),(({ y0 with o:=r1.2.1,line:=9 }:OPopV),({ y1 with m:=r11.2.1 }:EnvP),()))
 else
 some ((false,()),(({ y0 with o:=r1.2.1,line:=wi (y0.line+1) }:OPopV),({ y1 with m:=r11.2.1 }:EnvP),()))
 else
 if y0.line=7 then
 (aa2 y1.m y0.q.bottom y0.b).bind fun r12 =>
 some ((false,()),(({ y0 with o:=r1.2.1,line:=wi (y0.line+1) }:OPopV),({ y1 with m:=r12.2.1 }:EnvP),()))
 else
 (aa2 y1.m y0.q.bottom y0.b).bind fun r13 =>
 (abg r1.2.1 2 0).bind fun r14 =>
 some ((r14.1.1,()),(({ y0 with o:=r14.2.1 }:OPopV),({ y1 with m:=r13.2.1 }:EnvP),()))
 else
 if y0.line=8 then
 (avc y0.q (wu (y0.b-1))).bind fun r15 =>
 (acz y1.m r15.1.1).bind fun r16 =>
 (abg r1.2.1 1 (wi (r16.1.1))).bind fun r17 =>
 some ((r17.1.1,()),(({ y0 with o:=r17.2.1 }:OPopV),({ y1 with m:=r16.2.1 }:EnvP),()))
 else
 if y0.line=6 then
 (asW y1.m y0.q.top y0.t (wu (y0.t+1))).bind fun r18 =>
 if (!r18.1.1)=true then
 some ((false,()),(({ y0 with o:=r1.2.1,line:=9 }:OPopV),({ y1 with m:=r18.2.1 }:EnvP),()))
 else
 some ((false,()),(({ y0 with o:=r1.2.1,line:=wi (y0.line+1) }:OPopV),({ y1 with m:=r18.2.1 }:EnvP),()))
 else
 if y0.line=7 then
 (aa2 y1.m y0.q.bottom y0.b).bind fun r19 =>
 some ((false,()),(({ y0 with o:=r1.2.1,line:=wi (y0.line+1) }:OPopV),({ y1 with m:=r19.2.1 }:EnvP),()))
 else
 (aa2 y1.m y0.q.bottom y0.b).bind fun r20 =>
 (abg r1.2.1 2 0).bind fun r21 =>
 some ((r21.1.1,()),(({ y0 with o:=r21.2.1 }:OPopV),({ y1 with m:=r20.2.1 }:EnvP),()))
noncomputable abbrev aqm:Con SR1:=⟨259,[.ref 52,.ref 27],[.sh .b],fun x =>adS x.1 x.2.1⟩
theorem app:CO Tryz.prog aqm:=aan aak Tryz.func259 [abp,acC,amQ,acD,adL,aiO,arG,alD] ⟨aa6,abT,alB,abC,adb,amT,arF,ajo,trivial⟩
noncomputable def ac1 (y0:StealV) (y1:EnvP):Option ((Bool×Unit)×(StealV×EnvP×Unit)) :=
 (aaw y0.o).bind fun r1 =>
 if r1.1.1=true then
 some ((true,()),(({ y0 with o:=r1.2.1 }:StealV),y1,()))
 else
 if y0.line=1 then
 (acz y1.m y0.q.top).bind fun r2 =>
 some ((false,()),(({ y0 with o:=r1.2.1,line:=wi (y0.line+1),t:=r2.1.1 }:StealV),({ y1 with m:=r2.2.1 }:EnvP),()))
 else
 if y0.line=2 then
 (acz y1.m y0.q.bottom).bind fun r3 =>
 (au8 r3.1.1 y0.t).bind fun r4 =>
 if r4.1.1≤0 then
 (abg r1.2.1 2 0).bind fun r5 =>
 some ((r5.1.1,()),(({ y0 with o:=r5.2.1 }:StealV),({ y1 with m:=r3.2.1 }:EnvP),()))
 else
 some ((false,()),(({ y0 with o:=r1.2.1,line:=wi (y0.line+1) }:StealV),({ y1 with m:=r3.2.1 }:EnvP),()))
 else
 if y0.line=3 then
 (avc y0.q y0.t).bind fun r6 =>
 (acz y1.m r6.1.1).bind fun r7 =>
 some ((false,()),(({ y0 with o:=r1.2.1,line:=wi (y0.line+1),value:=r7.1.1 }:StealV),({ y1 with m:=r7.2.1 }:EnvP),()))
 else
 (asW y1.m y0.q.top y0.t (wu (y0.t+1))).bind fun r8 =>
 if r8.1.1=true then
 (abg r1.2.1 1 (wi (y0.value))).bind fun r9 =>
 some ((r9.1.1,()),(({ y0 with o:=r9.2.1 }:StealV),({ y1 with m:=r8.2.1 }:EnvP),()))
 else
 (abg r1.2.1 4 0).bind fun r10 =>
 some ((r10.1.1,()),(({ y0 with o:=r10.2.1 }:StealV),({ y1 with m:=r8.2.1 }:EnvP),()))
noncomputable abbrev anN:Con SR1:=⟨219,[.ref 42,.ref 27],[.sh .b],fun x =>ac1 x.1 x.2.1⟩
theorem ams:CO Tryz.prog anN:=aan aak Tryz.func219 [abp,acC,amQ,acD,arG,alD] ⟨aa6,abT,alB,abC,arF,ajo,trivial⟩
noncomputable def adu (y0:SetV) (y1:EnvP):Option ((Bool×Unit)×(SetV×EnvP×Unit)) :=
 (aaw y0.o).bind fun r1 =>
 if r1.1.1=true then
 some ((true,()),(({ y0 with o:=r1.2.1 }:SetV),y1,()))
 else
 (aBe y0.bit).bind fun r2 =>
 if y0.cell=y0.cell then
 (pOr y1.m y0.cell r2.1.1).bind fun r3 =>
 (abg r1.2.1 0 0).bind fun r4 =>
 some ((r4.1.1,()),(({ y0 with o:=r4.2.1 }:SetV),({ y1 with m:=r3.2.1 }:EnvP),()))
 else none
noncomputable abbrev aqc:Con SR1:=⟨264,[.ref 54,.ref 27],[.sh .b],fun x =>adu x.1 x.2.1⟩
theorem aof:CO Tryz.prog aqc:=aan aak Tryz.func264 [abp,atC,aCc,acD] ⟨aa6,arI,azi,abC,trivial⟩
noncomputable def acI (y0:ResetV) (y1:EnvP):Option ((Bool×Unit)×(ResetV×EnvP×Unit)) :=
 (aaw y0.o).bind fun r1 =>
 if r1.1.1=true then
 some ((true,()),(({ y0 with o:=r1.2.1 }:ResetV),y1,()))
 else
 (aBe y0.bit).bind fun r2 =>
 if y0.line=1 then
 (aDQ y1.m y0.cell (aC4 r2.1.1)).bind fun r3 =>
 some ((false,()),(({ y0 with o:=r1.2.1,line:=wi (y0.line+1) }:ResetV),({ y1 with m:=r3.2.1 }:EnvP),()))
 else
 if y0.line=2 then
 (acz y1.m y0.q.bottom).bind fun r4 =>
 some ((false,()),(({ y0 with o:=r1.2.1,line:=wi (y0.line+1),b:=r4.1.1 }:ResetV),({ y1 with m:=r4.2.1 }:EnvP),()))
 else
 if y0.line=3 then
 (acz y1.m y0.q.top).bind fun r5 =>
 (au8 y0.b r5.1.1).bind fun r6 =>
 if r6.1.1≤0 then
 (abg r1.2.1 2 0).bind fun r7 =>
 some ((r7.1.1,()),(({ y0 with o:=r7.2.1 }:ResetV),({ y1 with m:=r5.2.1 }:EnvP),()))
 else
 some ((false,()),(({ y0 with o:=r1.2.1,line:=wi (y0.line+1) }:ResetV),({ y1 with m:=r5.2.1 }:EnvP),()))
 else
 (pOr y1.m y0.cell r2.1.1).bind fun r8 =>
 (abg r1.2.1 1 0).bind fun r9 =>
 some ((r9.1.1,()),(({ y0 with o:=r9.2.1 }:ResetV),({ y1 with m:=r8.2.1 }:EnvP),()))
noncomputable abbrev anc:Con SR1:=⟨223,[.ref 43,.ref 27],[.sh .b],fun x =>acI x.1 x.2.1⟩
theorem amj:CO Tryz.prog anc:=aan aak Tryz.func223 [abp,atC,awM,acC,amQ,acD,aCc] ⟨aa6,arI,avf,abT,alB,abC,azi,trivial⟩
noncomputable def ads (y0:InsertV):Option ((Int×Unit)×(InsertV×Unit)) :=
 if 0<y0.i then
 some ((3,()),(y0,()))
 else
 some ((5,()),(y0,()))
noncomputable abbrev afK:Con SR1:=⟨192,[.ref 36],[.sh sI_],fun x =>ads x.1⟩
theorem aiY:CO Tryz.prog afK:=aan aak Tryz.func192 [] trivial
end
end Go.Proofs.YtidhehdanppcoaaGreat
