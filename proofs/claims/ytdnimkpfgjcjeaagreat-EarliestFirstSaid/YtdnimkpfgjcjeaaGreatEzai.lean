/- Walks: slices.Clone at the slices of a configuration. slices.Clone at the slices of a configuration,in the evaluator's words. Walks: the checks of a configuration (config and its reference),function by function. Walks: the checks of a configuration's programs and submissions (config). The check of a configuration,in the evaluator's words. What it means that an answer is there; numbers; loops. Walks: park.Asleep. park.Asleep in the evaluator's form. bits.TrailingZeros64 over any table. Walks: slices.Clone at the rows of an environment. slices.Clone at the rows of an environment,in the evaluator's words. -/
import Derived.Test.YtdnimkpfgjcjeaaGreatEzah
import Derived.Lib.SliceRun
import Derived.WalkKit
import Derived.Test.YtdnimkpfgjcjeaaGreatRows
import Derived.Test.YtdnimkpfgjcjeaaGreatEzaa
set_option linter.all false
namespace Go.Proofs.YtdnimkpfgjcjeaaGreat
section
open Go.RowKit Go.Maps
def art {α:Type} (enc:α→List Value) (sz:Nat) (el:TypeId) (w:World) (xs:List α) (e:Ending) (w':World):Prop :=
 (∃ A' c',e=.returned (.slice A' xs.length c')∧w'.ownsRow w.heap.size el sz (.slice A' xs.length c') xs.length (xs.flatMap enc))∧Below w.heap.size w w'
theorem ah0 {α:Type} {enc:α→List Value} {sz:Nat} (henc:∀ x,(enc x).length=sz):∀ xs:List α,(xs.flatMap enc).length=xs.length*sz
 | [] =>by simp
 | x::xs =>by rw [List.flatMap_cons,List.length_append,ah0 henc xs,henc,List.length_cons,Nat.succ_mul,Nat.add_comm]
theorem arC {α:Type} {enc:α→List Value} {sz:Nat} (henc:∀ x,(enc x).length=sz) (hsz:0<sz) {w:World} {B:Nat} {a:Addr} {xs:List α} (hx:Sl enc sz w B (some a) xs) (ob:Obj) :
  ∀ j u,(xs.flatMap enc)[j]?=some u→(w.alloc ob).cell? (a.add j)=some u:=by
 intro j u hj
 have hjl:j<(xs.flatMap enc).length:=(List.getElem?_eq_some_iff.1 hj).1
 have hne:xs≠[]:=by intro e; subst e; simp at hjl
 obtain ⟨b,o,e,hb,hc⟩:=hx.2 hne
 injection e with e
 subst e
 have hA:(⟨b,o,none⟩:Addr).add j=⟨b,o+j,none⟩:=by unfold Addr.add; split<;>simp_all
 rw [hA]
 refine Lib.cell?_alloc_some _ ?_
 rw [ah0 henc] at hjl
 have hi:j / sz<xs.length:=(Nat.div_lt_iff_lt_mul hsz).2 hjl
 have hm:j % sz<(enc xs[j / sz]).length:=by rw [henc]; exact Nat.mod_lt _ hsz
 have hg:=aul (enc:=enc) (sz:=sz) henc xs (j / sz) xs[j / sz] (List.getElem?_eq_getElem hi) (j % sz) _ (List.getElem?_eq_getElem hm)
 have hjj:j / sz*sz+j % sz=j:=by rw [Nat.mul_comm]; exact Nat.div_add_mod _ _
 rw [hjj,hj] at hg
 injection hg with hg
 have hc':=hc (j / sz) _ (List.getElem?_eq_getElem hi) (j % sz) _ (List.getElem?_eq_getElem hm)
 rw [hg]
 rw [Nat.add_assoc,hjj] at hc'
 exact hc'
set_option maxHeartbeats 2000000 in
theorem aux (A:Option Addr) (cap:Nat) (xs:List Ins) (w:World) (hx:Sl Ins.enc 3 w w.heap.size A xs) (hn:xs.length≤1000000) :
  Calls Tryz.prog 80 #[.slice A xs.length cap] w (art Ins.enc 3 99 w xs):=by
 cases A with
 | none =>
  have hnil:xs=[]:=by
   rcases xs with _ | ⟨x,xs⟩
   ·rfl
   ·obtain ⟨b,o,e,_⟩:=hx.2 (by simp)
    cases e
  subst hnil
  have q:∀ (w:World) (a:Option Addr) (n c n' c':Nat),(binOp .eql 97 (.slice a n c) (.slice none n' c')).run Tryz.prog w=.ok (.bool a.isNone) w:=fun w a n c n' c' =>Lib.run_eql_slice_nil w _ _ a n c n' c' Tryz.underlying97
  go_enter Tryz.func80,Tryz.ntmps80
  go_wp2
  go_ret
  exact ⟨⟨none,0,rfl,World.ownsRow_nil _ _ _ _⟩,Below.refl _ _⟩
 | some a =>
  obtain ⟨i0,hi,hz0,hz1,hz2⟩:=info_parts aE0
  have q:∀ (w:World) (a:Option Addr) (n c n' c':Nat),(binOp .eql 97 (.slice a n c) (.slice none n' c')).run Tryz.prog w=.ok (.bool a.isNone) w:=fun w a n c n' c' =>Lib.run_eql_slice_nil w _ _ a n c n' c' Tryz.underlying97
  have hcell:=Lib.hid (arC (sz:=3) (w:=w) (B:=w.heap.size) (fun _ =>rfl) (by decide) hx (Obj.cells #[] 99))
  clear hx
  go_enter Tryz.func80,Tryz.ntmps80
  go_wp2_with (at_builtin; refine wpList_append_own_at _ rfl _ _ 97 rfl w.heap.size 99 i0 (.agg #[.int .i64 0,.int .i64 0,.int .i64 0]) 3 24 Tryz.underlying97 hi hz0 hz1 hz2 rfl (by decide) _ _ _ rfl (World.ownsRow_made w #[] 0 (Nat.le_refl _) (Nat.zero_le _) rfl) a xs.length cap (xs.flatMap Ins.enc) rfl ?qc0 ?qc1 ?qc2 ?qc3 ?qc4 ?qc5 ?_)
  case qc0 =>exact ah0 (enc:=Ins.enc) (sz:=3) (fun _ =>rfl) xs
  case qc1 =>exact hcell.out
  case qc2 =>intro u hu; rw [List.mem_flatMap] at hu; obtain ⟨x,_,hu⟩:=hu; simp [Ins.enc] at hu; rcases hu with rfl | rfl | rfl<;>rfl
  case qc3 =>unfold maxLen; omega
  case qc4 =>omega
  case qc5 =>simp
  intro v' w1 hown hgrow _ _
  obtain ⟨A',c',hv⟩:=alM hown
  subst hv
  clear hcell
  go_wp2
  go_ret
  exact ⟨⟨A',c',by simp,by simpa using hown⟩,((Below.refl _ w).alloc (Nat.le_refl _) _).grown hgrow (by simp) (by intro k hk; simp [Value.ownBlock] at hk; omega)⟩
set_option maxHeartbeats 2000000 in
theorem asR (A:Option Addr) (cap:Nat) (xs:List (Option Addr×Nat×Nat)) (w:World) (hx:Sl aor 1 w w.heap.size A xs) (hn:xs.length≤1000000) :
  Calls Tryz.prog 79 #[.slice A xs.length cap] w (art aor 1 97 w xs):=by
 cases A with
 | none =>
  have hnil:xs=[]:=by
   rcases xs with _ | ⟨x,xs⟩
   ·rfl
   ·obtain ⟨b,o,e,_⟩:=hx.2 (by simp)
    cases e
  subst hnil
  have q:∀ (w:World) (a:Option Addr) (n c n' c':Nat),(binOp .eql 25 (.slice a n c) (.slice none n' c')).run Tryz.prog w=.ok (.bool a.isNone) w:=fun w a n c n' c' =>Lib.run_eql_slice_nil w _ _ a n c n' c' Tryz.underlying25
  go_enter Tryz.func79,Tryz.ntmps79
  go_wp2
  go_ret
  exact ⟨⟨none,0,rfl,World.ownsRow_nil _ _ _ _⟩,Below.refl _ _⟩
 | some a =>
  obtain ⟨i0,hi,hz0,hz1,hz2⟩:=info_parts aEa
  have q:∀ (w:World) (a:Option Addr) (n c n' c':Nat),(binOp .eql 25 (.slice a n c) (.slice none n' c')).run Tryz.prog w=.ok (.bool a.isNone) w:=fun w a n c n' c' =>Lib.run_eql_slice_nil w _ _ a n c n' c' Tryz.underlying25
  have hcell:=Lib.hid (arC (sz:=1) (w:=w) (B:=w.heap.size) (fun _ =>rfl) (by decide) hx (Obj.cells #[] 97))
  clear hx
  go_enter Tryz.func79,Tryz.ntmps79
  go_wp2_with (at_builtin; refine wpList_append_own_at _ rfl _ _ 25 rfl w.heap.size 97 i0 (.slice none 0 0) 1 24 Tryz.underlying25 hi hz0 hz1 hz2 rfl (by decide) _ _ _ rfl (World.ownsRow_made w #[] 0 (Nat.le_refl _) (Nat.zero_le _) rfl) a xs.length cap (xs.flatMap aor) rfl ?qc0 ?qc1 ?qc2 ?qc3 ?qc4 ?qc5 ?_)
  case qc0 =>exact ah0 (enc:=aor) (sz:=1) (fun _ =>rfl) xs
  case qc1 =>exact hcell.out
  case qc2 =>intro u hu; rw [List.mem_flatMap] at hu; obtain ⟨x,_,hu⟩:=hu; simp [aor] at hu; rcases hu with rfl; rfl
  case qc3 =>unfold maxLen; omega
  case qc4 =>omega
  case qc5 =>simp
  intro v' w1 hown hgrow _ _
  obtain ⟨A',c',hv⟩:=alM hown
  subst hv
  clear hcell
  go_wp2
  go_ret
  exact ⟨⟨A',c',by simp,by simpa using hown⟩,((Below.refl _ w).alloc (Nat.le_refl _) _).grown hgrow (by simp) (by intro k hk; simp [Value.ownBlock] at hk; omega)⟩
set_option maxHeartbeats 2000000 in
theorem asP (A:Option Addr) (cap:Nat) (xs:List Sub) (w:World) (hx:Sl Sub.enc 3 w w.heap.size A xs) (hn:xs.length≤1000000) :
  Calls Tryz.prog 81 #[.slice A xs.length cap] w (art Sub.enc 3 56 w xs):=by
 cases A with
 | none =>
  have hnil:xs=[]:=by
   rcases xs with _ | ⟨x,xs⟩
   ·rfl
   ·obtain ⟨b,o,e,_⟩:=hx.2 (by simp)
    cases e
  subst hnil
  have q:∀ (w:World) (a:Option Addr) (n c n' c':Nat),(binOp .eql 26 (.slice a n c) (.slice none n' c')).run Tryz.prog w=.ok (.bool a.isNone) w:=fun w a n c n' c' =>Lib.run_eql_slice_nil w _ _ a n c n' c' Tryz.underlying26
  go_enter Tryz.func81,Tryz.ntmps81
  go_wp2
  go_ret
  exact ⟨⟨none,0,rfl,World.ownsRow_nil _ _ _ _⟩,Below.refl _ _⟩
 | some a =>
  obtain ⟨i0,hi,hz0,hz1,hz2⟩:=info_parts aDx
  have q:∀ (w:World) (a:Option Addr) (n c n' c':Nat),(binOp .eql 26 (.slice a n c) (.slice none n' c')).run Tryz.prog w=.ok (.bool a.isNone) w:=fun w a n c n' c' =>Lib.run_eql_slice_nil w _ _ a n c n' c' Tryz.underlying26
  have hcell:=Lib.hid (arC (sz:=3) (w:=w) (B:=w.heap.size) (fun _ =>rfl) (by decide) hx (Obj.cells #[] 56))
  clear hx
  go_enter Tryz.func81,Tryz.ntmps81
  go_wp2_with (at_builtin; refine wpList_append_own_at _ rfl _ _ 26 rfl w.heap.size 56 i0 (.agg #[.int .i64 0,.int .i64 0,.int .i64 0]) 3 24 Tryz.underlying26 hi hz0 hz1 hz2 rfl (by decide) _ _ _ rfl (World.ownsRow_made w #[] 0 (Nat.le_refl _) (Nat.zero_le _) rfl) a xs.length cap (xs.flatMap Sub.enc) rfl ?qc0 ?qc1 ?qc2 ?qc3 ?qc4 ?qc5 ?_)
  case qc0 =>exact ah0 (enc:=Sub.enc) (sz:=3) (fun _ =>rfl) xs
  case qc1 =>exact hcell.out
  case qc2 =>intro u hu; rw [List.mem_flatMap] at hu; obtain ⟨x,_,hu⟩:=hu; simp [Sub.enc] at hu; rcases hu with rfl | rfl | rfl<;>rfl
  case qc3 =>unfold maxLen; omega
  case qc4 =>omega
  case qc5 =>simp
  intro v' w1 hown hgrow _ _
  obtain ⟨A',c',hv⟩:=alM hown
  subst hv
  clear hcell
  go_wp2
  go_ret
  exact ⟨⟨A',c',by simp,by simpa using hown⟩,((Below.refl _ w).alloc (Nat.le_refl _) _).grown hgrow (by simp) (by intro k hk; simp [Value.ownBlock] at hk; omega)⟩
end
section
open Go Go.RowKit
variable [Tb]
noncomputable def ako (l:List Ins):Option ((List Ins×Unit)×Unit):=if l.length≤1000000 then some ((l,()),()) else none
noncomputable abbrev arn:Con SR1:=⟨80,[.sh (.ro 3)],[.sh (.row 3)],fun x =>ako x.1⟩
noncomputable def ah5 (l:List Sub):Option ((List Sub×Unit)×Unit):=if l.length≤1000000 then some ((l,()),()) else none
noncomputable abbrev aqn:Con SR1:=⟨81,[.sh (.ro 4)],[.sh (.row 4)],fun x =>ah5 x.1⟩
theorem aw8 {f:FuncId} (hf:Nat.blt f agb=true) {c sz:Nat} {el:TypeId} (hp:∀ x,au7 (SR1.kt.vw c x)=true) (hsz:SR1.kt.sz c=sz) {spec:List (SR1.T c)→Option ((List (SR1.T c)×Unit)×Unit)} (hspec:∀ l o,spec l=some o→o=((l,()),())∧l.length≤1000000)
  (h:∀ (A:Option Addr) (cap:Nat) (xs:List (SR1.T c)) (w:World),Sl (aeR SR1.kt c) sz w w.heap.size A xs→xs.length≤1000000→Calls Tryz.prog f #[.slice A xs.length cap] w (art (aeR SR1.kt c) sz el w xs)) :
  CO Tryz.prog ⟨f,[.sh (.ro c)],[.sh (.row c)],fun x =>spec x.1⟩:=fun x out hx B W hg vs F w hw =>by
 obtain ⟨hb,hB,hs⟩:=hw
 obtain ⟨ho,hl⟩:=hspec x.1 out hx
 subst ho
 show ae7 Tryz.prog f _ w _
 rw [adc hf]
 rcases vs with _ | ⟨v,_ | ⟨v2,vs⟩⟩
 ·exact aaA hs
 ·replace hs:Sat B w [pcS SR1.kt (.ro c x.1) v,F]:=hs
  obtain ⟨A,cap,rfl,hsl⟩:=aCU hs
  have s1:=hs.drop
  rw [hsz] at hsl
  refine (h A cap x.1 w hsl hl).mono fun e w' ⟨⟨A',c',he,hown⟩,hb'⟩ =>⟨[.slice A' (List.length x.1) c'],he,hb.trans (hb'.mono hB),Nat.le_trans hB hb'.size,?_⟩
  have s2:=ak4 s1 hb' hB hown
  rw [← hsz] at s2
  exact aih hp s2
 ·replace hs:Sat B w (pcS SR1.kt (.ro c x.1) v::([fun _ =>False]++[F])):=hs
  exact aaA hs.drop
theorem avN:CO Tryz.prog arn:=aw8 rfl (c:=3) (sz:=3) (fun _ =>rfl) rfl (spec:=ako) (fun l o h =>by
 unfold ako at h
 split at h
 ·rename_i hl; cases h; exact ⟨rfl,hl⟩
 ·cases h) fun A cap xs w hx hn =>aux A cap xs w hx hn
theorem auv:CO Tryz.prog aqn:=aw8 rfl (c:=4) (sz:=3) (fun _ =>rfl) rfl (spec:=ah5) (fun l o h =>by
 unfold ah5 at h
 split at h
 ·rename_i hl; cases h; exact ⟨rfl,hl⟩
 ·cases h) fun A cap xs w hx hn =>asP A cap xs w hx hn
noncomputable def ah6 (l:List (List Ins)):Option ((List (List Ins)×Unit)×Unit):=if l.length≤1000000 then some ((l,()),()) else none
noncomputable abbrev aiF:Con SR1:=⟨79,[.sh (.rr 3)],[.sh (.row 18)],fun x =>ah6 x.1⟩
def aAN (xss:List (List Ins)) (ps:List (Option Addr×Nat)):List (Option Addr×Nat×Nat):=List.zipWith (fun xs a =>(a.1,xs.length,a.2)) xss ps
theorem at5 {Φ:World→Prop} {L:List aad}:∀ (xss:List (List Ins)) (ps:List (Option Addr×Nat)),xss.length=ps.length→(∀ u,Φ u→∀ (i:Nat) xs a,xss[i]?=some xs→ps[i]?=some a→Sl (aeR SR1.kt 3) 3 u u.heap.size a.1 xs∧xs.length≤a.2) →
  Ent (ae8 Φ::L) (abY SR1.kt (pcS SR1.kt) 18 xss ((aAN xss ps).map aor)++ae8 Φ::L)
 | [],[],_,_ =>Ent.refl
 | [],_::_,h,_ =>by cases h
 | _::_,[],h,_ =>by cases h
 | xs::xss,a::ps,hl,hΦ =>by
  have ih:=at5 (Φ:=Φ) (L:=L) xss ps (by simpa using hl) fun u hu i ys b h1 h2 =>hΦ u hu (i+1) ys b h1 h2
  refine amb.trans (fun h hs =>?_)
  have h1:=abi (A:=ae8 Φ) ih hs
  refine aaM (A':=pcS SR1.kt (.ro 3 xs) (.slice a.1 xs.length a.2)) (fun k hk =>?_) h1
  refine aaB.2 (show pcW SR1.kt (obS SR1.kt) (rwS SR1.kt) (.ro 3 xs) (.slice a.1 xs.length a.2) k from ⟨a.1,a.2,rfl,?_⟩)
  exact aea (fun u hu =>hΦ u hu 0 xs a rfl rfl) _ hk
theorem aBl {B:Nat} {w:World} {A R F:aad} {N:List aad} (s:Sat B w (N++A::[R,F])):Sat B w ((R::N)++[A,F]):=s.perm (aar fun f g h1 h2 h3 =>by simp only [List.cons_append,h1,h2,h3]; omega)
theorem asQ (xss:List (List Ins)) (hl:xss.length≤1000000) (B:Nat) (W:World) (v:Value) (F:aad) (w:World) (hw:Cls B W [pcS SR1.kt (.rr 3 xss) v,F] w) :
  Calls Tryz.prog aiF.f #[v] w fun e w' =>∃ u,e=.returned u∧Cls B W [pcS SR1.kt (.row 18 xss) u,F] w':=by
 obtain ⟨hb,hB,hs⟩:=hw
 have s1:Sat B w ((fun h =>∃ A cap,v=.slice A xss.length cap∧rrS (aeR SR1.kt 3) (SR1.kt.sz 3) A cap xss h)::[F]):=abd (alT (S:=SR1) (f:=.rr 3 xss) (fun _ h =>h) fun _ _ h =>h) hs
 obtain ⟨h,H,k1,k2,a,e,⟨A,cap,rfl,ps0,h1⟩,h2⟩:=s1
 have s2:Sat B w (ae8 _::[F]):=⟨h,H,k1,k2,a,e,h1,h2⟩
 have h3:=ama s2 List.mem_cons_self
 have hps:xss.length≤ps0.length:=by
  rcases Nat.eq_zero_or_pos xss.length with h0 | h0
  ·omega
  ·obtain ⟨a,ha,_⟩:=h3.2 (xss.length-1) _ (List.getElem?_eq_getElem (Nat.sub_lt h0 Nat.one_pos))
   have:=(List.getElem?_eq_some_iff.1 ha).1
   omega
 obtain ⟨ps,hpe⟩:∃ ps,ps=ps0.take xss.length:=⟨_,rfl⟩
 have hpl:xss.length=ps.length:=by rw [hpe,List.length_take]; omega
 have hpg:∀ (i:Nat) b,ps[i]?=some b→ps0[i]?=some b:=fun i b hb =>by
  rw [hpe,List.getElem?_take] at hb
  split at hb
  ·exact hb
  ·cases hb
 have hrl:(aAN xss ps).length=xss.length:=by unfold aAN; rw [List.length_zipWith]; omega
 have hsl:Sl aor 1 w w.heap.size A (aAN xss ps):=by
  refine ⟨by omega,fun hne =>?_⟩
  have hpos:0<xss.length:=by rw [← hrl]; exact List.length_pos_iff.2 hne
  obtain ⟨a0,_,_,b,o,hA,hlt,_⟩:=h3.2 0 _ (List.getElem?_eq_getElem hpos)
  refine ⟨b,o,hA,hlt,fun i x hi j u hu =>?_⟩
  unfold aAN at hi
  rw [List.getElem?_zipWith] at hi
  cases hx:xss[i]? with
  | none =>rw [hx] at hi; simp at hi
  | some xs =>
   cases hy:ps[i]? with
   | none =>rw [hx,hy] at hi; simp at hi
   | some a =>
    rw [hx,hy] at hi
    obtain rfl:=Option.some.inj hi
    obtain ⟨a',ha',_,b',o',hA',_,hc⟩:=h3.2 i xs hx
    rw [hpg i a hy] at ha'
    obtain rfl:=Option.some.inj ha'
    rw [hA] at hA'
    cases hA'
    cases j with
    | zero =>
     obtain rfl:=Option.some.inj hu
     rw [Nat.mul_one,Nat.add_zero]; exact hc
    | succ j =>simp [aor] at hu
 have hcl:=asR A cap (aAN xss ps) w hsl (by omega)
 rw [hrl] at hcl
 refine hcl.mono fun e w' ⟨⟨A',c',he,hown⟩,hb'⟩ =>⟨.slice A' xss.length c',by rw [he,hrl],hb.trans (hb'.mono hB),Nat.le_trans hB hb'.size,?_⟩
 rw [hrl] at hown
 have s3:=ak4 s2 hb' hB hown
 have s4:Sat B w' (ae8 _::[aef A' xss.length c' 1 ((aAN xss ps).flatMap aor),F]):=s3.perm (List.Perm.swap ..)
 have s5:=s4.imp (at5 xss ps hpl fun u hu i xs a hx hy =>by
  obtain ⟨a',ha',hq,_⟩:=hu.2 i xs hx
  rw [hpg i a hy] at ha'
  obtain rfl:=Option.some.inj ha'
  exact hq)
 have s6:=aBl s5
 have s7:=ahI (A:=pcS SR1.kt (.row 18 xss) (.slice A' xss.length c')) (fun k hk =>aaB.2 (show pcW SR1.kt (obS SR1.kt) (rwS SR1.kt) (.row 18 xss) _ k from ⟨A',c',rfl,acL.2 ⟨(aAN xss ps).map aor,by
  rw [show ((aAN xss ps).map aor).flatten=(aAN xss ps).flatMap aor from by rw [List.flatMap_def]]
  exact hk⟩⟩)) s6
 exact (s7.perm (List.Perm.swap ..)).drop
theorem auw:CO Tryz.prog aiF:=fun x out hx B W hg vs F w hw =>by
 obtain ⟨hb,hB,hs⟩:=hw
 replace hx:ah6 x.1=some out:=hx
 unfold ah6 at hx
 split at hx
 ·rename_i hl
  cases hx
  show ae7 Tryz.prog aiF.f _ w _
  rw [adc rfl]
  rcases vs with _ | ⟨v,_ | ⟨v2,vs⟩⟩
  ·exact aaA hs
  ·exact (asQ x.1 hl B W v F w ⟨hb,hB,hs⟩).mono fun e w' ⟨u,he,h⟩ =>⟨[u],he,h⟩
  ·replace hs:Sat B w (pcS SR1.kt (.rr 3 x.1) v::([fun _ =>False]++[F])):=hs
   exact aaA hs.drop
 ·cases hx
end
section
open Go.RowKit
set_option maxHeartbeats 400000 in
theorem afY (a b c:Int) (w:World) :
  Calls Tryz.prog 63 #[.int .i64 a,.int .i64 b,.int .i64 c] w fun e w' =>e=.returned (.bool (inB a b c))∧w=w':=by
 unfold inB
 by_cases h:b≤a
 all_goals
  go_enter Tryz.func63,Tryz.ntmps63
  go_wp2
  go_ret
  all_goals (simp [*]<;>omega)
set_option maxHeartbeats 1000000 in
theorem ahw (c:Cfg) (l:CfgAt) (w:World) :
  Calls Tryz.prog 51 #[auT c l] w fun e w' =>e=.returned (.bool (akR c))∧Below w.heap.size w w':=by
 unfold auT akR
 by_cases hl:c.levels<8
 all_goals
  go_enter Tryz.func51,Tryz.ntmps51
  go_wp2_with (first | (go_at_call 63; refine (afY _ _ _ _).mono ?_; rintro e w' ⟨rfl,rfl⟩))
  all_goals go_ret
  all_goals simp [*]
  all_goals exact (Below.refl _ _).alloc (Nat.le_refl _) _
set_option maxHeartbeats 1000000 in
theorem an0 (c:Cfg) (l:CfgAt) (x:Ins) (w:World) (h1:1≤c.levels) (h2:c.levels≤64) (hp:c.progs.length≤9223372036854775807) :
  Calls Tryz.prog 64 #[auT c l,.agg #[.int .i64 x.op,.int .i64 x.a,.int .i64 x.b]] w fun e w' =>e=.returned (.bool (aqO c.levels c.progs.length x))∧Below w.heap.size w w':=by
 unfold auT
 go_enter Tryz.func64,Tryz.ntmps64
 go_wp2_with (first | (go_at_call 63; refine (afY _ _ _ _).mono ?_; rintro e w' ⟨rfl,rfl⟩))
 all_goals go_ret
 all_goals refine ⟨aBn (by unfold aqO; simp_all),?_⟩
 all_goals exact ((Below.refl _ _).alloc (Nat.le_refl _) _).alloc (by simp) _
theorem alQ {lv np:Int} {ps:List (List Ins)} {k:Nat} (hk:k<ps.length) (h:abw lv np (ps.drop k)=abw lv np ps) (hl:32<ps[k].length):abw lv np ps=2:=by
 rw [← h,List.drop_eq_getElem_cons hk]; simp [abw,hl]
theorem am0 {lv np:Int} {ps:List (List Ins)} {k j:Nat} (hk:k<ps.length) (h:abw lv np (ps.drop k)=abw lv np ps) (hl:ps[k].length≤32) (hj:j<ps[k].length) (hb:aqO lv np ps[k][j]=false):abw lv np ps=1:=by
 rw [← h,List.drop_eq_getElem_cons hk]
 have:ps[k].all (aqO lv np)=false:=by
  rw [List.all_eq_false]; exact ⟨_,List.getElem_mem hj,by simp [hb]⟩
 simp [abw,Nat.not_lt.2 hl,this]
theorem alP {lv np:Int} {ps:List (List Ins)} {k:Nat} (hk:k<ps.length) (h:abw lv np (ps.drop k)=abw lv np ps) (hl:ps[k].length≤32) (ha:(ps[k].take ps[k].length).all (aqO lv np)=true):abw lv np (ps.drop (k+1))=abw lv np ps:=by
 rw [← h,List.drop_eq_getElem_cons hk]
 rw [List.take_length] at ha
 simp [abw,Nat.not_lt.2 hl,ha]
theorem as2 {α:Type} {f:α→Bool} {l:List α} {j:Nat} (hj:j<l.length) (h:(l.take j).all f=true) (hf:f l[j]=true):(l.take (j+1)).all f=true:=by
 rw [List.take_succ_eq_append_getElem hj,List.all_append,h]; simp [hf]
def aJU (lv np:Int) (ps:List (List Ins)) (k:Nat):Prop:=abw lv np (ps.drop k)=abw lv np ps
def aJI (lv np:Int) (p:List Ins) (k:Nat):Prop:=(p.take k).all (aqO lv np)=true
@[reducible] def aAg (c : Cfg) (l : CfgAt) : Obj := .cells #[.int .i64 c.workers,.int .i64 c.levels,.int .i64 c.classes,.int .i64 c.tasks,.int .i64 c.deque,.int .i64 c.heap,.int .i64 c.batch,.int .i64 c.age,.int .i64 c.patience,.slice l.pa c.progs.length l.pc,.slice l.sa c.subs.length l.sc] 28
set_option maxHeartbeats 2000000 in
theorem ajR (c:Cfg) (l:CfgAt) (w:World) (h1:1≤c.levels) (h2:c.levels≤64) (hc:amH w w.heap.size c l) :
  Calls Tryz.prog 52 #[auT c l] w fun e w' =>e=.returned (.int .i64 (adX c))∧Below w.heap.size w w':=by
 have hlen:=hc.1.1
 by_cases hp:inB (c.progs.length:Int) 1 32=true
 ·have hfin:adX c=abw c.levels c.progs.length c.progs:=by simp [adX,hp]
  have Hfin:=Lib.hid hfin
  clear hfin
  unfold auT
  go_enter Tryz.func52,Tryz.ntmps52
  go_wp2_with (first | (go_at_call 63; refine (afY _ _ _ _).mono ?_; rintro e w' ⟨rfl,rfl⟩))
  go_loopw [15] (fun i wr =>∃ k:Nat,k≤c.progs.length∧i=.int .i64 k∧aJU c.levels c.progs.length c.progs k∧Below (w.heap.size+1) (w.alloc (aAg c l)) wr) (fun i _ =>c.progs.length-(intOf i).toNat)
  case atStart =>exact ⟨0,Nat.zero_le _,rfl,rfl,Below.refl _ _⟩
  case round =>
   obtain ⟨k,hk,rfl,hi,hb⟩:=hrel
   have hB:w.heap.size<wr.heap.size:=by have:=hb.size; simp at this; omega
   have hbw:Below w.heap.size w wr:=((Below.refl _ _).alloc (Nat.le_refl _) _).trans (hb.mono (by omega))
   by_cases hlt:k<c.progs.length
   ·obtain ⟨b,o,hpa,hbb,Ai,ci,hcell,hsl⟩:=hc.1.at_ hlt
    have hln:=hsl.len
    obtain ⟨hcs,hfz⟩:=asX hb
    by_cases hlong:32<c.progs[k].length
    ·have hres:=Lib.hid (alQ hlt hi hlong)
     obtain ⟨pa,pc,sa,sc⟩:=l
     obtain rfl:pa=some ⟨b,o,none⟩:=hpa
     go_wp2
     go_ret
     exact ⟨aga (by rw [Hfin.out,hres.out]),hbw⟩
    ·obtain ⟨pa,pc,sa,sc⟩:=l
     obtain rfl:pa=some ⟨b,o,none⟩:=hpa
     go_wp2
     obtain ⟨wo,rfl⟩:∃ wo:World,wo=wr:=⟨_,rfl⟩
     clear hcs hfz
     go_loopw [24] (fun i ws =>∃ j:Nat,j≤c.progs[k].length∧i=.int .i64 j∧aJI c.levels c.progs.length c.progs[k] j∧Below (w.heap.size+1) (w.alloc (aAg c ⟨some ⟨b,o,none⟩,pc,sa,sc⟩)) ws) (fun i _ =>c.progs[k].length-(intOf i).toNat)
     case atStart =>exact ⟨0,Nat.zero_le _,rfl,by simp [aJI],hb⟩
     case round =>
      obtain ⟨j,hj,rfl,hq,hb2⟩:=hrel
      have hB2:w.heap.size<wr.heap.size:=by have:=hb2.size; simp at this; omega
      have hbw2:Below w.heap.size w wr:=((Below.refl _ _).alloc (Nat.le_refl _) _).trans (hb2.mono (by omega))
      by_cases hjt:j<c.progs[k].length
      ·obtain ⟨b2,o2,hpa2,hbb2,hcc⟩:=hsl.at_ hjt
       obtain rfl:Ai=some ⟨b2,o2,none⟩:=hpa2
       obtain ⟨hcs,hfz⟩:=asX hb2
       have c0:w.cell? ⟨b2,o2+j*3,none⟩=some (.int .i64 c.progs[k][j].op):=hcc j hjt 0 _ rfl
       have c1:w.cell? ⟨b2,o2+j*3+1,none⟩=some (.int .i64 c.progs[k][j].a):=hcc j hjt 1 _ rfl
       have c2:w.cell? ⟨b2,o2+j*3+2,none⟩=some (.int .i64 c.progs[k][j].b):=hcc j hjt 2 _ rfl
       by_cases hok:aqO c.levels c.progs.length c.progs[k][j]=true
       ·go_wp2_with (first | (go_at_call 64; refine (an0 c ⟨some ⟨b,o,none⟩,pc,sa,sc⟩ c.progs[k][j] _ h1 h2 hlen).mono ?_; rintro e w' ⟨rfl,hbv⟩))
        go_roundw
        case rel =>exact ⟨j+1,by omega,by go_num,as2 hjt hq hok,(hb2.alloc (by omega) _).trans (hbv.mono (by simp; omega))⟩
        case measure =>simp [intOf]; omega
       ·have hok':aqO c.levels c.progs.length c.progs[k][j]=false:=by simpa using hok
        clear hok
        have hres:=Lib.hid (am0 hlt hi (by omega) hjt hok')
        go_wp2_with (first | (go_at_call 64; refine (an0 c ⟨some ⟨b,o,none⟩,pc,sa,sc⟩ c.progs[k][j] _ h1 h2 hlen).mono ?_; rintro e w' ⟨rfl,hbv⟩))
        go_ret
        exact ⟨aga (by rw [Hfin.out,hres.out]),((Below.refl _ _).alloc (Nat.le_refl _) _).trans (((hb2.alloc (by omega) _).trans (hbv.mono (by simp; omega))).mono (by omega))⟩
      ·obtain ⟨hcs,hfz⟩:=asX hb2
       go_wp2
       go_roundw
       case rel =>exact ⟨k+1,by omega,by go_num,alP hlt hi (by omega) (by
        have e:j=c.progs[k].length:=by omega
        subst e; exact hq),hb2⟩
       case measure =>simp [intOf]; omega
   ·go_wp2
    go_ret
    exact ⟨aga (by
     have hi':abw c.levels c.progs.length (c.progs.drop k)=abw c.levels c.progs.length c.progs:=hi
     rw [Hfin.out,← hi',List.drop_eq_nil_of_le (by omega)]; rfl),hbw⟩
 ·have hfin:adX c=2:=by simp [adX,hp]
  have Hfin:=Lib.hid hfin
  clear hfin
  unfold auT
  go_enter Tryz.func52,Tryz.ntmps52
  go_wp2_with (first | (go_at_call 63; refine (afY _ _ _ _).mono ?_; rintro e w' ⟨rfl,rfl⟩))
  go_ret
  exact ⟨aga Hfin.out.symm,(Below.refl _ _).alloc (Nat.le_refl _) _⟩
theorem an8 {lv np:Int} {ss:List Sub} {k:Nat} (hk:k<ss.length) (h:adS lv np (ss.drop k)=adS lv np ss) {e:Int} (he:apj lv np ss[k]=e) (hne:e≠0):adS lv np ss=e:=by
 subst he
 rw [← h,List.drop_eq_getElem_cons hk]; simp [adS,hne]
theorem amO {lv np:Int} {ss:List Sub} {k:Nat} (hk:k<ss.length) (h:adS lv np (ss.drop k)=adS lv np ss) (he:apj lv np ss[k]=0):adS lv np (ss.drop (k+1))=adS lv np ss:=by
 rw [← h,List.drop_eq_getElem_cons hk]; simp [adS,he]
def aJT (lv np:Int) (ss:List Sub) (k:Nat):Prop:=adS lv np (ss.drop k)=adS lv np ss
set_option maxHeartbeats 2000000 in
theorem avQ (c:Cfg) (l:CfgAt) (w:World) (h1:1≤c.levels) (h2:c.levels≤64) (hc:amH w w.heap.size c l) :
  Calls Tryz.prog 53 #[auT c l] w fun e w' =>e=.returned (.int .i64 (ahr c))∧Below w.heap.size w w':=by
 have hlen:=hc.1.1
 have hlen2:=hc.2.1
 by_cases hp:64<c.subs.length
 ·have hfin:ahr c=2:=by simp [ahr,hp]
  have Hfin:=Lib.hid hfin
  clear hfin
  unfold auT
  go_enter Tryz.func53,Tryz.ntmps53
  go_wp2
  go_ret
  exact ⟨aga Hfin.out.symm,(Below.refl _ _).alloc (Nat.le_refl _) _⟩
 ·have hfin:ahr c=adS c.levels c.progs.length c.subs:=by simp [ahr,hp]
  have Hfin:=Lib.hid hfin
  clear hfin
  unfold auT
  go_enter Tryz.func53,Tryz.ntmps53
  go_wp2
  go_loopw [12] (fun i wr =>∃ k:Nat,k≤c.subs.length∧i=.int .i64 k∧aJT c.levels c.progs.length c.subs k∧Below (w.heap.size+1) (w.alloc (aAg c l)) wr) (fun i _ =>c.subs.length-(intOf i).toNat)
  case atStart =>exact ⟨0,Nat.zero_le _,rfl,rfl,Below.refl _ _⟩
  case round =>
   obtain ⟨k,hk,rfl,hi,hb⟩:=hrel
   have hB:w.heap.size<wr.heap.size:=by have:=hb.size; simp at this; omega
   have hbw:Below w.heap.size w wr:=((Below.refl _ _).alloc (Nat.le_refl _) _).trans (hb.mono (by omega))
   obtain ⟨hcs,hfz⟩:=asX hb
   by_cases hlt:k<c.subs.length
   ·obtain ⟨b,o,hpa,hbb,hcc⟩:=hc.2.at_ hlt
    obtain ⟨pa,pc,sa,sc⟩:=l
    obtain rfl:sa=some ⟨b,o,none⟩:=hpa
    have c0:w.cell? ⟨b,o+k*3,none⟩=some (.int .i64 c.subs[k].prog):=hcc k hlt 0 _ rfl
    have c1:w.cell? ⟨b,o+k*3+1,none⟩=some (.int .i64 c.subs[k].level):=hcc k hlt 1 _ rfl
    have c2:w.cell? ⟨b,o+k*3+2,none⟩=some (.int .i64 c.subs[k].deadline):=hcc k hlt 2 _ rfl
    have hse:apj c.levels c.progs.length c.subs[k]=if !inB c.subs[k].prog 0 (c.progs.length-1) then 3 else if !inB c.subs[k].level 0 (c.levels-1) || !inB c.subs[k].deadline 0 16777215 then 1 else 0:=rfl
    have Hse:=Lib.hid hse
    clear hse
    have bad:=fun e he hne =>Lib.hid (an8 (e:=e) hlt hi he hne)
    by_cases g1:inB c.subs[k].prog 0 (c.progs.length-1)=true
    ·by_cases g2:inB c.subs[k].level 0 (c.levels-1)=true
     ·by_cases g3:inB c.subs[k].deadline 0 16777215=true
      ·go_wp2_with (first | (go_at_call 63; refine (afY _ _ _ _).mono ?_; rintro e w' ⟨rfl,rfl⟩))
       go_roundw
       case rel =>exact ⟨k+1,by omega,by go_num,amO hlt hi (by rw [Hse.out]; simp [g1,g2,g3]),hb.alloc (by omega) _⟩
       case measure =>simp [intOf]; omega
      ·go_wp2_with (first | (go_at_call 63; refine (afY _ _ _ _).mono ?_; rintro e w' ⟨rfl,rfl⟩))
       go_ret
       exact ⟨aga (by rw [Hfin.out,(bad 1 (by rw [Hse.out]; simp [g1,g2,g3]) (by omega)).out]),hbw.alloc (by omega) _⟩
     ·go_wp2_with (first | (go_at_call 63; refine (afY _ _ _ _).mono ?_; rintro e w' ⟨rfl,rfl⟩))
      go_ret
      exact ⟨aga (by rw [Hfin.out,(bad 1 (by rw [Hse.out]; simp [g1,g2]) (by omega)).out]),hbw.alloc (by omega) _⟩
    ·go_wp2_with (first | (go_at_call 63; refine (afY _ _ _ _).mono ?_; rintro e w' ⟨rfl,rfl⟩))
     go_ret
     exact ⟨aga (by rw [Hfin.out,(bad 3 (by rw [Hse.out]; simp [g1]) (by omega)).out]),hbw.alloc (by omega) _⟩
   ·go_wp2
    go_ret
    exact ⟨aga (by
     have hi':adS c.levels c.progs.length (c.subs.drop k)=adS c.levels c.progs.length c.subs:=hi
     rw [Hfin.out,← hi',List.drop_eq_nil_of_le (by omega)]; rfl),hbw⟩
set_option maxHeartbeats 2000000 in
theorem auy (c:Cfg) (l:CfgAt) (w:World) (hc:amH w w.heap.size c l) :
  Calls Tryz.prog 26 #[auT c l] w fun e w' =>e=.returned (.int .i64 (ae5 c))∧Below w.heap.size w w':=by
 by_cases hn:akR c=true
 ·obtain ⟨_,_,h1,h2,_⟩:=ain hn
  by_cases hp:adX c=0
  ·have hfin:ae5 c=ahr c:=by simp [ae5,hn,hp]
   have Hfin:=Lib.hid hfin
   clear hfin
   unfold auT
   go_enter Tryz.func26,Tryz.ntmps26
   go_wp2_with fail
   refine (ahw c l _).mono ?_; rintro e w1 ⟨rfl,hb1⟩
   obtain ⟨hc1,hf1⟩:=asX hb1
   have hw1:=anz hb1
   go_wp2_with fail
   refine (ajR c l _ h1 h2 (hc.up hw1)).mono ?_; rintro e w2 ⟨rfl,hb2⟩
   have hw2:=ah8 hw1 hb2
   obtain ⟨hc2,hf2⟩:=asX (ah8 hb1 hb2)
   clear hc1 hf1
   go_wp2_with fail
   refine (avQ c l _ h1 h2 (hc.up hw2)).mono ?_; rintro e w3 ⟨rfl,hb3⟩
   go_wp2_with fail
   go_ret
   exact ⟨aga Hfin.out.symm,ah8 hw2 hb3⟩
  ·have hfin:ae5 c=adX c:=by simp [ae5,hn,hp]
   have Hfin:=Lib.hid hfin
   have hp':(adX c == 0)=false:=by simpa using hp
   clear hfin hp
   unfold auT
   go_enter Tryz.func26,Tryz.ntmps26
   go_wp2_with fail
   refine (ahw c l _).mono ?_; rintro e w1 ⟨rfl,hb1⟩
   obtain ⟨hc1,hf1⟩:=asX hb1
   have hw1:=anz hb1
   go_wp2_with fail
   refine (ajR c l _ h1 h2 (hc.up hw1)).mono ?_; rintro e w2 ⟨rfl,hb2⟩
   have hw2:=ah8 hw1 hb2
   obtain ⟨hc2,hf2⟩:=asX (ah8 hb1 hb2)
   clear hc1 hf1
   go_wp2_with fail
   go_ret
   exact ⟨aga Hfin.out.symm,hw2⟩
 ·have hfin:ae5 c=1:=by simp [ae5,hn]
  have Hfin:=Lib.hid hfin
  clear hfin
  unfold auT
  go_enter Tryz.func26,Tryz.ntmps26
  go_wp2_with fail
  refine (ahw c l _).mono ?_; rintro e w1 ⟨rfl,hb1⟩
  have hw1:=anz hb1
  go_wp2_with fail
  go_ret
  exact ⟨aga Hfin.out.symm,hw1⟩
end
section
open Go Go.RowKit
variable [Tb]
theorem aFz {f:FuncId} (hf:Nat.blt f agb=true) {r:Cfg→Int} (h:∀ (c:Cfg) (l:CfgAt) (w:World),amH w w.heap.size c l→Calls Tryz.prog f #[auT c l] w fun e w' =>e=.returned (.int .i64 (r c))∧Below w.heap.size w w') :
  CO Tryz.prog (⟨f,[.val 13],[.sh sI_],fun x =>some ((r x.1,()),())⟩:Con SR1):=fun x out hx B W hg vs F w hc =>by
 obtain ⟨hb,hB,hs⟩:=hc
 replace hx:(some ((r x.1,()),()):Option ((Int×Unit)×Unit))=some out:=hx
 obtain rfl:=Option.some.inj hx
 show ae7 Tryz.prog f _ w _
 rw [adc hf]
 rcases vs with _ | ⟨v1,_ | ⟨v2,vs⟩⟩
 ·exact aaA hs
 ·replace hs:Sat B w (aAX SR1 13 x.1 v1::[F]):=hs
  obtain ⟨p,rfl,hp,s1⟩:=aD1 hs
  exact (h x.1 p w hp).mono fun e w' ⟨he,hb'⟩ =>⟨[.int .i64 (r x.1)],he,hb.trans (hb'.mono hB),Nat.le_trans hB hb'.size,aGq (S:=SR1) (s1.below hb')⟩
 ·replace hs:Sat B w (aAX SR1 13 x.1 v1::([fun _ =>False]++[F])):=hs
  exact aaA hs.drop
def aiJ (c:Cfg):Option ((Int×Unit)×Unit):=some ((ae5 c,()),())
noncomputable abbrev akp:Con SR1:=⟨26,[.val 13],[.sh sI_],fun x =>aiJ x.1⟩
theorem alm:CO Tryz.prog akp:=aFz (by kernel_rfl) auy
end
section
open Go
def aaP {α:Type} (o:Option α) (P:α→Prop):Prop:=∃ x,o=some x∧P x
section
variable {α β:Type} {o:Option α} {P Q:α→Prop} {x:α}
theorem aaP.some_ (h:P x):aaP (some x) P:=⟨x,rfl,h⟩
theorem aaP.bind {f:α→Option β} {Q:β→Prop} (h:aaP o P) (k:∀ x,P x→aaP (f x) Q):aaP (o.bind f) Q:=by
 obtain ⟨x,rfl,hx⟩:=h
 exact k x hx
theorem aaP.ite {c:Prop} [Decidable c] {a b:Option α} (h1:c→aaP a P) (h2:¬ c→aaP b P):aaP (if c then a else b) P:=by
 by_cases h:c
 ·rw [if_pos h]; exact h1 h
 ·rw [if_neg h]; exact h2 h
theorem aaP.guard {c:Prop} [Decidable c] {a b:Option α} (h:c) (k:c→aaP a P):aaP (if c then a else b) P:=by rw [if_pos h]; exact k h
theorem aaP.mono (h:aaP o P) (k:∀ x,P x→Q x):aaP o Q:=by
 obtain ⟨x,e,hx⟩:=h
 exact ⟨x,e,k x hx⟩
end
def Rg (x:Int):Prop := -9223372036854775808≤x∧x≤9223372036854775807
theorem aaw {x:Int} (h:Rg x):wi x=x:=w64 h.1 h.2
theorem aai {x:Int} (h:-1000000000000≤x∧x≤1000000000000):Rg x:=by unfold Rg; omega
theorem arw {a b:Int} (h1:1≤b) (h2:0≤a):0≤Int.tmod a b∧Int.tmod a b<b:=⟨Int.tmod_nonneg b h2,Int.tmod_lt_of_pos a (by omega)⟩
theorem acx {σ β:Type} {F:(σ→Option β)→σ→Option β} (I:σ→Prop) (μ:σ→Nat) {P:β→Prop} (step:∀ self x,I x→(∀ y,I y→μ y<μ x→aaP (self y) P)→aaP (F self x) P):∀ k x,I x→μ x<k→aaP (lpF F k x) P
 | 0,x,_,h =>by omega
 | k+1,x,hx,h =>step (lpF F k) x hx fun y hy hlt =>acx I μ step k y hy (by omega)
theorem auF {α:Type} {d:α} {xs:List α} {i:Int} (h:0≤i∧i<(xs.length:Int)):atL d xs i∈xs:=List.mem_of_getElem? (aeL h)
theorem anx {α β:Type} {G:Prop} [d:Decidable G] (A:Option α) (f:α→Option β):(A.bind fun r =>if G then f r else none)=if G then A.bind f else none:=by
 by_cases h:G
 ·simp only [if_pos h]
 ·simp only [if_neg h]; cases A<;>rfl
end
section
open Go.RowKit Go.Maps
set_option maxRecDepth 100000
theorem ax6 (w:World):(Go.underlying 146).run Tryz.prog w=.ok (.pointer 151) w:=acd Tryz.underlying146
theorem ax5 (w:World):(zeroValue 146).run Tryz.prog w=.ok (.pointer none) w:=by
 obtain ⟨i,hi⟩:∃ i,Tryz.prog.info? 146=some i∧i.zero=some (.pointer none):=⟨_,rfl,by kernel_rfl⟩
 unfold zeroValue
 rw [aaa (ab7 hi.1)]
 simp [hi.2]
theorem aGk (w:World):(Instr.typeAssert .nilIface 108 146 true).run Tryz.prog w=.ok (.tuple #[.pointer none,.bool false]) w:=by
 simp [Instr.typeAssert,ax6,ax5]
theorem aA0 (w:World) (T:TypeId) (u:Value) (h:T≠146):(Instr.typeAssert (.iface T u) 108 146 true).run Tryz.prog w=.ok (.tuple #[.pointer none,.bool false]) w:=by
 simp [Instr.typeAssert,ax6,ax5,h]
theorem aIy (w:World) (u:Value):(Instr.typeAssert (.iface 146 u) 108 146 true).run Tryz.prog w=.ok (.tuple #[u,.bool true]) w:=by
 simp [Instr.typeAssert,ax6]
theorem axM (w:World):Calls Tryz.prog 59 #[.nilIface] w fun e w' =>e=.returned (.bool false)∧w'=w:=by
 have q:=aGk
 go_enter Tryz.func59,Tryz.ntmps59
 go_wp2
 go_ret
 exact ⟨rfl,rfl⟩
theorem auH (w:World) (T:TypeId) (u:Value) (h:T≠146):Calls Tryz.prog 59 #[.iface T u] w fun e w' =>e=.returned (.bool false)∧w'=w:=by
 have q:∀ w,(Instr.typeAssert (.iface T u) 108 146 true).run Tryz.prog w=.ok (.tuple #[.pointer none,.bool false]) w:=fun w =>aA0 w T u h
 clear h
 go_enter Tryz.func59,Tryz.ntmps59
 go_wp2
 go_ret
 exact ⟨rfl,rfl⟩
theorem auG (w:World) (b o:Nat) (l:Int) (h:w.cell? ⟨b,o+4,none⟩=some (.int .i64 l)):Calls Tryz.prog 59 #[.iface 146 (.pointer (some ⟨b,o,none⟩))] w fun e w' =>e=.returned (.bool (decide (l=5)))∧w'=w:=by
 have q:∀ w,(Instr.typeAssert (.iface 146 (.pointer (some ⟨b,o,none⟩))) 108 146 true).run Tryz.prog w=.ok (.tuple #[.pointer (some ⟨b,o,none⟩),.bool true]) w:=fun w =>aIy w _
 go_enter Tryz.func59,Tryz.ntmps59
 go_wp2
 go_ret
 exact ⟨rfl,rfl⟩
end
section
open Go Go.RowKit
variable [Tb]
set_option maxRecDepth 100000
def asl:MV→Bool
 | .sleep x =>decide (x.line=5)
 | _ =>false
noncomputable def aq2 (m:MV):Option ((Bool×Unit)×(MV×Unit)):=some ((asl m,()),(m,()))
noncomputable abbrev ajt:Con SR1:=⟨59,[.mch],[.sh .b],fun x =>aq2 x.1⟩
theorem axN {m:MV} {B:Nat} {w:World} {v:Value} {F:aad} (hs:Sat B w (pcS SR1.kt (.mach m) v::[F])):Calls Tryz.prog 59 #[v] w fun e w' =>e=.returned (.bool (asl m))∧w'=w:=by
 obtain ⟨hh,Hh,j1,j2,ja,je,h1,hL⟩:=hs
 cases m
 case nil =>
  rw [aaB] at h1
  obtain rfl:v=.nilIface:=h1
  exact axM w
 case sleep x =>
  obtain ⟨⟨q1,q2⟩,rfl,ho⟩:=(al8 (K:=SR1.kt) rfl).1 h1
  obtain ⟨vs,hst⟩:=ala.1 ho
  obtain ⟨rfl,hp⟩:=alS (K:=SR1.kt) (L:=[pts q1 q2 vs]) rfl (abE (List.perm_append_comm (l₁:=[pts q1 q2 vs])) hst)
  have s2:Sat B w (pts q1 q2 _::[F]):=⟨hh,Hh,aal.2 ⟨j1,j2,ja,je,hp,hL⟩⟩
  have hc:=(s2.cell (i:=4) (v:=.int .i64 x.line) rfl).2.1
  exact auG w q1 q2 x.line hc
 all_goals
  obtain ⟨q,rfl,_⟩:=(al8 (K:=SR1.kt) rfl).1 h1
  exact auH w _ _ (Nat.ne_of_beq_eq_false (by kernel_rfl))
theorem arU:CO Tryz.prog ajt:=fun x out hx B W hg vs F w hw =>by
 obtain ⟨hb,hB,hs⟩:=hw
 obtain ⟨m,u⟩:=x
 cases hx
 show ae7 Tryz.prog ajt.f _ w _
 rw [adc rfl]
 rcases vs with _ | ⟨v,_ | ⟨v2,vs⟩⟩
 ·exact aaA hs
 ·have hs0:Sat B w (pcS SR1.kt (.mach m) v::[F]):=hs
  refine (axN hs0).mono fun e w' ⟨he,hw'⟩ =>⟨[.bool (asl m)],he,?_⟩
  subst hw'
  exact ⟨hb,hB,aa5 (p:=pcS SR1.kt (.b (asl m)) (.bool (asl m))) hs0 fun h =>aaB.2 rfl⟩
 ·replace hs:Sat B w (pcS SR1.kt (.mach m) v::([fun _ =>False]++[F])):=hs
  exact aaA hs.drop
end
section
open Go Go.RowKit Go.Maps
set_option maxRecDepth 100000
def tzI (x:Int):Int:=IntKind.u64.wrap (bits BinOp.and IntKind.u64 x (IntKind.u64.wrap (-x))*285870213051353865) / 288230376151711744
theorem aGh (a:Int):0≤IntKind.u64.wrap a∧IntKind.u64.wrap a≤18446744073709551615:=by
 simp only [IntKind.wrap,IntKind.bits,IntKind.signed]
 simp
 omega
theorem ax1 (x:Int):0≤tzI x∧tzI x<64:=by
 unfold tzI
 have h:=aGh (bits BinOp.and IntKind.u64 x (IntKind.u64.wrap (-x))*285870213051353865)
 omega
theorem aDp (w:World):Calls Tryz.prog 186 #[.int .u64 0] w fun e w' =>e=.returned (.int .i64 64)∧w'=w:=by
 go_enter Tryz.func186,Tryz.ntmps186
 go_wp2
 go_ret
 exact ⟨rfl,rfl⟩
theorem aAY (w:World) (x:Int) (h:¬ x=0) (b:Int) (hI:0≤IntKind.u64.wrap (bits BinOp.and IntKind.u64 x (IntKind.u64.wrap (-x))*285870213051353865) / 288230376151711744∧IntKind.u64.wrap (bits BinOp.and IntKind.u64 x (IntKind.u64.wrap (-x))*285870213051353865) / 288230376151711744<64) (hb:w.cell? ⟨0,(IntKind.u64.wrap (bits BinOp.and IntKind.u64 x (IntKind.u64.wrap (-x))*285870213051353865) / 288230376151711744).toNat,none⟩=some (.int .u8 b)):Calls Tryz.prog 186 #[.int .u64 x] w fun e w' =>e=.returned (.int .i64 (wrap64 b))∧w'=w:=by
 go_enter Tryz.func186,Tryz.ntmps186
 go_wp2
 go_ret
 exact ⟨rfl,rfl⟩
variable [T:Tb]
def tzV (x:Int):Int:=if x=0 then 64 else wrap64 (T.tb (tzI x).toNat)
def pTz (x:Int):Option ((Int×Unit)×Unit):=some ((tzV x,()),())
noncomputable abbrev aEq:Con SR1:=⟨186,[.sh sU_],[.sh sI_],fun x =>pTz x.1⟩
theorem aGJ:CO Tryz.prog aEq:=fun x out hx B W hg vs F w hw =>by
 obtain ⟨hb,hB,hs⟩:=hw
 obtain ⟨(x:Int),u⟩:=x
 cases hx
 show ae7 Tryz.prog aEq.f _ w _
 rw [adc rfl]
 rcases vs with _ | ⟨v,_ | ⟨v2,vs⟩⟩
 ·exact aaA hs
 ·have hs0:Sat B w (pcS SR1.kt (.i .u64 x) v::[F]):=hs
  have hv:v=.int .u64 x:=by
   obtain ⟨_,_,_,_,_,_,h1,_⟩:=hs0
   exact (aaB.1 h1:v=.int .u64 x)
  subst hv
  have hc:Calls Tryz.prog 186 #[.int .u64 x] w fun e w' =>e=.returned (.int .i64 (tzV x))∧w'=w:=by
   by_cases h:x=0
   ·subst h
    exact aDp w
   ·refine (aAY w x h (T.tb (tzI x).toNat) (ax1 x) ?_).mono fun e w' ⟨he,hw⟩ =>⟨by rw [he]; unfold tzV; rw [if_neg h],hw⟩
    exact ((asX hb).1 0 _ hg.1).trans (hg.2 _ ((Int.toNat_lt (ax1 x).1).2 (ax1 x).2))
  refine hc.mono fun e w' ⟨he,hw'⟩ =>⟨[.int .i64 (tzV x)],he,?_⟩
  subst hw'
  exact ⟨hb,hB,aa5 (p:=pcS SR1.kt (.i .i64 (tzV x)) (.int .i64 (tzV x))) hs0.drop fun h =>aaB.2 rfl⟩
 ·replace hs:Sat B w (pcS SR1.kt (.i .u64 x) v::([fun _ =>False]++[F])):=hs
  exact aaA hs.drop
end
section
open Go.RowKit Go.Maps
def auo (x:Int):List Value:=[.int .u64 x]
theorem aAd:(Tryz.prog.info? 44).map (fun i =>(i.zero,i.size,i.bytes))=some (some (.int .u64 0),1,8):=by kernel_rfl
set_option maxHeartbeats 2000000 in
theorem auu (A:Option Addr) (cap:Nat) (xs:List Int) (w:World) (hx:Sl auo 1 w w.heap.size A xs) (hn:xs.length≤1000000) :
  Calls Tryz.prog 50 #[.slice A xs.length cap] w (art auo 1 44 w xs):=by
 cases A with
 | none =>
  have hnil:xs=[]:=by
   rcases xs with _ | ⟨x,xs⟩
   ·rfl
   ·obtain ⟨b,o,e,_⟩:=hx.2 (by simp)
    cases e
  subst hnil
  have q:∀ (w:World) (a:Option Addr) (n c n' c':Nat),(binOp .eql 37 (.slice a n c) (.slice none n' c')).run Tryz.prog w=.ok (.bool a.isNone) w:=fun w a n c n' c' =>Lib.run_eql_slice_nil w _ _ a n c n' c' Tryz.underlying37
  go_enter Tryz.func50,Tryz.ntmps50
  go_wp2
  go_ret
  exact ⟨⟨none,0,rfl,World.ownsRow_nil _ _ _ _⟩,Below.refl _ _⟩
 | some a =>
  obtain ⟨i0,hi,hz0,hz1,hz2⟩:=info_parts aAd
  have q:∀ (w:World) (a:Option Addr) (n c n' c':Nat),(binOp .eql 37 (.slice a n c) (.slice none n' c')).run Tryz.prog w=.ok (.bool a.isNone) w:=fun w a n c n' c' =>Lib.run_eql_slice_nil w _ _ a n c n' c' Tryz.underlying37
  have hcell:=Lib.hid (arC (sz:=1) (w:=w) (B:=w.heap.size) (fun _ =>rfl) (by decide) hx (Obj.cells #[] 44))
  clear hx
  go_enter Tryz.func50,Tryz.ntmps50
  go_wp2_with (at_builtin; refine wpList_append_own_at _ rfl _ _ 37 rfl w.heap.size 44 i0 (.int .u64 0) 1 8 Tryz.underlying37 hi hz0 hz1 hz2 rfl (by decide) _ _ _ rfl (World.ownsRow_made w #[] 0 (Nat.le_refl _) (Nat.zero_le _) rfl) a xs.length cap (xs.flatMap auo) rfl ?qc0 ?qc1 ?qc2 ?qc3 ?qc4 ?qc5 ?_)
  case qc0 =>exact ah0 (enc:=auo) (sz:=1) (fun _ =>rfl) xs
  case qc1 =>exact hcell.out
  case qc2 =>intro u hu; rw [List.mem_flatMap] at hu; obtain ⟨x,_,hu⟩:=hu; simp [auo] at hu; subst hu; rfl
  case qc3 =>unfold maxLen; omega
  case qc4 =>omega
  case qc5 =>simp
  intro v' w1 hown hgrow _ _
  obtain ⟨A',c',hv⟩:=alM hown
  subst hv
  clear hcell
  go_wp2
  go_ret
  exact ⟨⟨A',c',by simp,by simpa using hown⟩,((Below.refl _ w).alloc (Nat.le_refl _) _).grown hgrow (by simp) (by intro k hk; simp [Value.ownBlock] at hk; omega)⟩
end
section
open Go Go.RowKit
variable [Tb]
noncomputable def amw (l:List Int):Option ((List Int×Unit)×(List Int×Unit)):=if l.length≤1000000 then some ((l,()),(l,())) else none
noncomputable abbrev arm:Con SR1:=⟨50,[.lent 0],[.sh (.row 0)],fun x =>amw x.1⟩
theorem ayt {B:Nat} {w:World} {c:Nat} {xs:List (SR1.T c)} {v:Value} {F:aad} (s:Sat B w [pcS SR1.kt (.row c xs) v,F]):∃ A cap,v=.slice A xs.length cap∧Sat B w (rwS SR1.kt c xs A cap::[F]):=by
 obtain ⟨hh,Hh,k1,k2,ka,ke,h1,hF⟩:=s
 rw [aaB] at h1
 obtain ⟨A,cap,e,hr⟩:=h1
 exact ⟨A,cap,e,hh,Hh,k1,k2,ka,ke,hr,hF⟩
theorem aFy {f:FuncId} (hf:Nat.blt f agb=true) {c sz:Nat} {el:TypeId} (hp:∀ x,au7 (SR1.kt.vw c x)=true) (hpl:SR1.kt.pl c=true) (hz:0<SR1.kt.sz c) (hsz:SR1.kt.sz c=sz) {spec:List (SR1.T c)→Option ((List (SR1.T c)×Unit)×(List (SR1.T c)×Unit))} (hspec:∀ l o,spec l=some o→o=((l,()),(l,()))∧l.length≤1000000)
  (h:∀ (A:Option Addr) (cap:Nat) (xs:List (SR1.T c)) (w:World),Sl (aeR SR1.kt c) sz w w.heap.size A xs→xs.length≤1000000→Calls Tryz.prog f #[.slice A xs.length cap] w (art (aeR SR1.kt c) sz el w xs)) :
  CO Tryz.prog ⟨f,[.lent c],[.sh (.row c)],fun x =>spec x.1⟩:=fun x out hx B W hg vs F w hw =>by
 obtain ⟨hb,hB,hs⟩:=hw
 obtain ⟨ho,hl⟩:=hspec x.1 out hx
 subst ho
 show ae7 Tryz.prog f _ w _
 rw [adc hf]
 rcases vs with _ | ⟨v,_ | ⟨v2,vs⟩⟩
 ·exact aaA hs
 ·replace hs:Sat B w [pcS SR1.kt (.row c x.1) v,F]:=hs
  obtain ⟨A,cap,rfl,s1⟩:=ayt hs
  have hsl:=(atz (awd hpl hz s1) List.mem_cons_self).1
  rw [hsz] at hsl
  refine (h A cap x.1 w hsl hl).mono fun e w' ⟨⟨A',c',he,hown⟩,hb'⟩ =>⟨[.slice A' (List.length x.1) c'],he,hb.trans (hb'.mono hB),Nat.le_trans hB hb'.size,?_⟩
  have s2:=ak4 hs hb' hB hown
  rw [← hsz] at s2
  exact aih hp s2
 ·replace hs:Sat B w (pcS SR1.kt (.row c x.1) v::([fun _ =>False]++[F])):=hs
  exact aaA hs.drop
theorem avM:CO Tryz.prog arm:=aFy rfl (c:=0) (sz:=1) (fun _ =>rfl) rfl (by decide) rfl (spec:=amw) (fun l o h =>by
 unfold amw at h
 split at h
 ·rename_i hl; cases h; exact ⟨rfl,hl⟩
 ·cases h) fun A cap xs w hx hn =>auu A cap xs w hx hn
end
end Go.Proofs.YtdnimkpfgjcjeaaGreat
