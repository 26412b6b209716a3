/- Walks: slices.Clone at the slices of a configuration. slices.Clone at the slices of a configuration,in the evaluator's words. Walks: the checks of a configuration (config and its reference),function by function. Walks: the checks of a configuration's programs and submissions (config). The check of a configuration,in the evaluator's words. What it means that an answer is there; numbers; loops. Walks: park.Asleep. park.Asleep in the evaluator's form. bits.TrailingZeros64 over any table. Walks: slices.Clone at the rows of an environment. slices.Clone at the rows of an environment,in the evaluator's words. The program's machines in the evaluator's form. -/
import Derived.Test.YteapeojalliebaaGreatIzah
import Derived.Lib.SliceRun
import Derived.WalkKit
import Derived.Test.YteapeojalliebaaGreatRows
import Derived.Test.YteapeojalliebaaGreatIzaa
set_option linter.all false
namespace Go.Proofs.YteapeojalliebaaGreat
section
open Go.RowKit Go.Maps
def asD {α:Type} (enc:α→List Value) (sz:Nat) (el:TypeId) (w:World) (xs:List α) (e:Ending) (w':World):Prop :=
 (∃ A' c',e=.returned (.slice A' xs.length c')∧w'.ownsRow w.heap.size el sz (.slice A' xs.length c') xs.length (xs.flatMap enc))∧Below w.heap.size w w'
theorem aiW {α:Type} {enc:α→List Value} {sz:Nat} (henc:∀ x,(enc x).length=sz):∀ xs:List α,(xs.flatMap enc).length=xs.length*sz
 | [] =>by simp
 | x::xs =>by rw [List.flatMap_cons,List.length_append,aiW henc xs,henc,List.length_cons,Nat.succ_mul,Nat.add_comm]
theorem asO {α:Type} {enc:α→List Value} {sz:Nat} (henc:∀ x,(enc x).length=sz) (hsz:0<sz) {w:World} {B:Nat} {a:Addr} {xs:List α} (hx:Sl enc sz w B (some a) xs) (ob:Obj) :
  ∀ j u,(xs.flatMap enc)[j]?=some u→(w.alloc ob).cell? (a.add j)=some u:=by
 intro j u hj
 have hjl:j<(xs.flatMap enc).length:=(List.getElem?_eq_some_iff.1 hj).1
 have hne:xs≠[]:=by intro e; subst e; simp at hjl
 obtain ⟨b,o,e,hb,hc⟩:=hx.2 hne
 injection e with e
 subst e
 have hA:(⟨b,o,none⟩:Addr).add j=⟨b,o+j,none⟩:=by unfold Addr.add; split<;>simp_all
 rw [hA]
 refine Lib.cell?_alloc_some _ ?_
 rw [aiW henc] at hjl
 have hi:j / sz<xs.length:=(Nat.div_lt_iff_lt_mul hsz).2 hjl
 have hm:j % sz<(enc xs[j / sz]).length:=by rw [henc]; exact Nat.mod_lt _ hsz
 have hg:=avt (enc:=enc) (sz:=sz) henc xs (j / sz) xs[j / sz] (List.getElem?_eq_getElem hi) (j % sz) _ (List.getElem?_eq_getElem hm)
 have hjj:j / sz*sz+j % sz=j:=by rw [Nat.mul_comm]; exact Nat.div_add_mod _ _
 rw [hjj,hj] at hg
 injection hg with hg
 have hc':=hc (j / sz) _ (List.getElem?_eq_getElem hi) (j % sz) _ (List.getElem?_eq_getElem hm)
 rw [hg]
 rw [Nat.add_assoc,hjj] at hc'
 exact hc'
set_option maxHeartbeats 2000000 in
theorem avI (A:Option Addr) (cap:Nat) (xs:List Ins) (w:World) (hx:Sl Ins.enc 3 w w.heap.size A xs) (hn:xs.length≤1000000) :
  Calls Tryz.prog 95 #[.slice A xs.length cap] w (asD Ins.enc 3 121 w xs):=by
 cases A with
 | none =>
  have hnil:xs=[]:=by
   rcases xs with _ | ⟨x,xs⟩
   ·rfl
   ·obtain ⟨b,o,e,_⟩:=hx.2 (by simp)
    cases e
  subst hnil
  have q:∀ (w:World) (a:Option Addr) (n c n' c':Nat),(binOp .eql 119 (.slice a n c) (.slice none n' c')).run Tryz.prog w=.ok (.bool a.isNone) w:=fun w a n c n' c' =>Lib.run_eql_slice_nil w _ _ a n c n' c' Tryz.underlying119
  go_enter Tryz.func95,Tryz.ntmps95
  go_wp2
  go_ret
  exact ⟨⟨none,0,rfl,World.ownsRow_nil _ _ _ _⟩,Below.refl _ _⟩
 | some a =>
  obtain ⟨i0,hi,hz0,hz1,hz2⟩:=info_parts aGY
  have q:∀ (w:World) (a:Option Addr) (n c n' c':Nat),(binOp .eql 119 (.slice a n c) (.slice none n' c')).run Tryz.prog w=.ok (.bool a.isNone) w:=fun w a n c n' c' =>Lib.run_eql_slice_nil w _ _ a n c n' c' Tryz.underlying119
  have hcell:=Lib.hid (asO (sz:=3) (w:=w) (B:=w.heap.size) (fun _ =>rfl) (by decide) hx (Obj.cells #[] 121))
  clear hx
  go_enter Tryz.func95,Tryz.ntmps95
  go_wp2_with (at_builtin; refine wpList_append_own_at _ rfl _ _ 119 rfl w.heap.size 121 i0 (.agg #[.int .i64 0,.int .i64 0,.int .i64 0]) 3 24 Tryz.underlying119 hi hz0 hz1 hz2 rfl (by decide) _ _ _ rfl (World.ownsRow_made w #[] 0 (Nat.le_refl _) (Nat.zero_le _) rfl) a xs.length cap (xs.flatMap Ins.enc) rfl ?qc0 ?qc1 ?qc2 ?qc3 ?qc4 ?qc5 ?_)
  case qc0 =>exact aiW (enc:=Ins.enc) (sz:=3) (fun _ =>rfl) xs
  case qc1 =>exact hcell.out
  case qc2 =>intro u hu; rw [List.mem_flatMap] at hu; obtain ⟨x,_,hu⟩:=hu; simp [Ins.enc] at hu; rcases hu with rfl | rfl | rfl<;>rfl
  case qc3 =>unfold maxLen; omega
  case qc4 =>omega
  case qc5 =>simp
  intro v' w1 hown hgrow _ _
  obtain ⟨A',c',hv⟩:=amN hown
  subst hv
  clear hcell
  go_wp2
  go_ret
  exact ⟨⟨A',c',by simp,by simpa using hown⟩,((Below.refl _ w).alloc (Nat.le_refl _) _).grown hgrow (by simp) (by intro k hk; simp [Value.ownBlock] at hk; omega)⟩
set_option maxHeartbeats 2000000 in
theorem atX (A:Option Addr) (cap:Nat) (xs:List (Option Addr×Nat×Nat)) (w:World) (hx:Sl apy 1 w w.heap.size A xs) (hn:xs.length≤1000000) :
  Calls Tryz.prog 94 #[.slice A xs.length cap] w (asD apy 1 119 w xs):=by
 cases A with
 | none =>
  have hnil:xs=[]:=by
   rcases xs with _ | ⟨x,xs⟩
   ·rfl
   ·obtain ⟨b,o,e,_⟩:=hx.2 (by simp)
    cases e
  subst hnil
  have q:∀ (w:World) (a:Option Addr) (n c n' c':Nat),(binOp .eql 25 (.slice a n c) (.slice none n' c')).run Tryz.prog w=.ok (.bool a.isNone) w:=fun w a n c n' c' =>Lib.run_eql_slice_nil w _ _ a n c n' c' Tryz.underlying25
  go_enter Tryz.func94,Tryz.ntmps94
  go_wp2
  go_ret
  exact ⟨⟨none,0,rfl,World.ownsRow_nil _ _ _ _⟩,Below.refl _ _⟩
 | some a =>
  obtain ⟨i0,hi,hz0,hz1,hz2⟩:=info_parts aF5
  have q:∀ (w:World) (a:Option Addr) (n c n' c':Nat),(binOp .eql 25 (.slice a n c) (.slice none n' c')).run Tryz.prog w=.ok (.bool a.isNone) w:=fun w a n c n' c' =>Lib.run_eql_slice_nil w _ _ a n c n' c' Tryz.underlying25
  have hcell:=Lib.hid (asO (sz:=1) (w:=w) (B:=w.heap.size) (fun _ =>rfl) (by decide) hx (Obj.cells #[] 119))
  clear hx
  go_enter Tryz.func94,Tryz.ntmps94
  go_wp2_with (at_builtin; refine wpList_append_own_at _ rfl _ _ 25 rfl w.heap.size 119 i0 (.slice none 0 0) 1 24 Tryz.underlying25 hi hz0 hz1 hz2 rfl (by decide) _ _ _ rfl (World.ownsRow_made w #[] 0 (Nat.le_refl _) (Nat.zero_le _) rfl) a xs.length cap (xs.flatMap apy) rfl ?qc0 ?qc1 ?qc2 ?qc3 ?qc4 ?qc5 ?_)
  case qc0 =>exact aiW (enc:=apy) (sz:=1) (fun _ =>rfl) xs
  case qc1 =>exact hcell.out
  case qc2 =>intro u hu; rw [List.mem_flatMap] at hu; obtain ⟨x,_,hu⟩:=hu; simp [apy] at hu; rcases hu with rfl; rfl
  case qc3 =>unfold maxLen; omega
  case qc4 =>omega
  case qc5 =>simp
  intro v' w1 hown hgrow _ _
  obtain ⟨A',c',hv⟩:=amN hown
  subst hv
  clear hcell
  go_wp2
  go_ret
  exact ⟨⟨A',c',by simp,by simpa using hown⟩,((Below.refl _ w).alloc (Nat.le_refl _) _).grown hgrow (by simp) (by intro k hk; simp [Value.ownBlock] at hk; omega)⟩
set_option maxHeartbeats 2000000 in
theorem atV (A:Option Addr) (cap:Nat) (xs:List Sub) (w:World) (hx:Sl Sub.enc 3 w w.heap.size A xs) (hn:xs.length≤1000000) :
  Calls Tryz.prog 96 #[.slice A xs.length cap] w (asD Sub.enc 3 123 w xs):=by
 cases A with
 | none =>
  have hnil:xs=[]:=by
   rcases xs with _ | ⟨x,xs⟩
   ·rfl
   ·obtain ⟨b,o,e,_⟩:=hx.2 (by simp)
    cases e
  subst hnil
  have q:∀ (w:World) (a:Option Addr) (n c n' c':Nat),(binOp .eql 26 (.slice a n c) (.slice none n' c')).run Tryz.prog w=.ok (.bool a.isNone) w:=fun w a n c n' c' =>Lib.run_eql_slice_nil w _ _ a n c n' c' Tryz.underlying26
  go_enter Tryz.func96,Tryz.ntmps96
  go_wp2
  go_ret
  exact ⟨⟨none,0,rfl,World.ownsRow_nil _ _ _ _⟩,Below.refl _ _⟩
 | some a =>
  obtain ⟨i0,hi,hz0,hz1,hz2⟩:=info_parts aFx
  have q:∀ (w:World) (a:Option Addr) (n c n' c':Nat),(binOp .eql 26 (.slice a n c) (.slice none n' c')).run Tryz.prog w=.ok (.bool a.isNone) w:=fun w a n c n' c' =>Lib.run_eql_slice_nil w _ _ a n c n' c' Tryz.underlying26
  have hcell:=Lib.hid (asO (sz:=3) (w:=w) (B:=w.heap.size) (fun _ =>rfl) (by decide) hx (Obj.cells #[] 123))
  clear hx
  go_enter Tryz.func96,Tryz.ntmps96
  go_wp2_with (at_builtin; refine wpList_append_own_at _ rfl _ _ 26 rfl w.heap.size 123 i0 (.agg #[.int .i64 0,.int .i64 0,.int .i64 0]) 3 24 Tryz.underlying26 hi hz0 hz1 hz2 rfl (by decide) _ _ _ rfl (World.ownsRow_made w #[] 0 (Nat.le_refl _) (Nat.zero_le _) rfl) a xs.length cap (xs.flatMap Sub.enc) rfl ?qc0 ?qc1 ?qc2 ?qc3 ?qc4 ?qc5 ?_)
  case qc0 =>exact aiW (enc:=Sub.enc) (sz:=3) (fun _ =>rfl) xs
  case qc1 =>exact hcell.out
  case qc2 =>intro u hu; rw [List.mem_flatMap] at hu; obtain ⟨x,_,hu⟩:=hu; simp [Sub.enc] at hu; rcases hu with rfl | rfl | rfl<;>rfl
  case qc3 =>unfold maxLen; omega
  case qc4 =>omega
  case qc5 =>simp
  intro v' w1 hown hgrow _ _
  obtain ⟨A',c',hv⟩:=amN hown
  subst hv
  clear hcell
  go_wp2
  go_ret
  exact ⟨⟨A',c',by simp,by simpa using hown⟩,((Below.refl _ w).alloc (Nat.le_refl _) _).grown hgrow (by simp) (by intro k hk; simp [Value.ownBlock] at hk; omega)⟩
end
section
open Go Go.RowKit
variable [Tb]
noncomputable def alw (l:List Ins):Option ((List Ins×Unit)×Unit):=if l.length≤1000000 then some ((l,()),()) else none
noncomputable abbrev asw:Con SR1:=⟨95,[.sh (.ro 3)],[.sh (.row 3)],fun x =>alw x.1⟩
noncomputable def aiY (l:List Sub):Option ((List Sub×Unit)×Unit):=if l.length≤1000000 then some ((l,()),()) else none
noncomputable abbrev arB:Con SR1:=⟨96,[.sh (.ro 4)],[.sh (.row 4)],fun x =>aiY x.1⟩
theorem ays {f:FuncId} (hf:Nat.blt f agX=true) {c sz:Nat} {el:TypeId} (hp:∀ x,awq (SR1.kt.vw c x)=true) (hsz:SR1.kt.sz c=sz) {spec:List (SR1.T c)→Option ((List (SR1.T c)×Unit)×Unit)} (hspec:∀ l o,spec l=some o→o=((l,()),())∧l.length≤1000000)
  (h:∀ (A:Option Addr) (cap:Nat) (xs:List (SR1.T c)) (w:World),Sl (afF SR1.kt c) sz w w.heap.size A xs→xs.length≤1000000→Calls Tryz.prog f #[.slice A xs.length cap] w (asD (afF SR1.kt c) sz el w xs)) :
  CO Tryz.prog ⟨f,[.sh (.ro c)],[.sh (.row c)],fun x =>spec x.1⟩:=fun x out hx B W hg vs F w hw =>by
 obtain ⟨hb,hB,hs⟩:=hw
 obtain ⟨ho,hl⟩:=hspec x.1 out hx
 subst ho
 show agT Tryz.prog f _ w _
 rw [aeA hf]
 rcases vs with _ | ⟨v,_ | ⟨v2,vs⟩⟩
 ·exact aaP hs
 ·replace hs:Sat B w [pcS SR1.kt (.ro c x.1) v,F]:=hs
  obtain ⟨A,cap,rfl,hsl⟩:=aEA hs
  have s1:=hs.drop
  rw [hsz] at hsl
  refine (h A cap x.1 w hsl hl).mono fun e w' ⟨⟨A',c',he,hown⟩,hb'⟩ =>⟨[.slice A' (List.length x.1) c'],he,hb.trans (hb'.mono hB),Nat.le_trans hB hb'.size,?_⟩
  have s2:=al3 s1 hb' hB hown
  rw [← hsz] at s2
  exact amA hp s2
 ·replace hs:Sat B w (pcS SR1.kt (.ro c x.1) v::([fun _ =>False]++[F])):=hs
  exact aaP hs.drop
theorem aw5:CO Tryz.prog asw:=ays rfl (c:=3) (sz:=3) (fun _ =>rfl) rfl (spec:=alw) (fun l o h =>by
 unfold alw at h
 split at h
 ·rename_i hl; cases h; exact ⟨rfl,hl⟩
 ·cases h) fun A cap xs w hx hn =>avI A cap xs w hx hn
theorem avG:CO Tryz.prog arB:=ays rfl (c:=4) (sz:=3) (fun _ =>rfl) rfl (spec:=aiY) (fun l o h =>by
 unfold aiY at h
 split at h
 ·rename_i hl; cases h; exact ⟨rfl,hl⟩
 ·cases h) fun A cap xs w hx hn =>atV A cap xs w hx hn
noncomputable def aiZ (l:List (List Ins)):Option ((List (List Ins)×Unit)×Unit):=if l.length≤1000000 then some ((l,()),()) else none
noncomputable abbrev ajw:Con SR1:=⟨94,[.sh (.rr 3)],[.sh (.row 18)],fun x =>aiZ x.1⟩
def aCn (xss:List (List Ins)) (ps:List (Option Addr×Nat)):List (Option Addr×Nat×Nat):=List.zipWith (fun xs a =>(a.1,xs.length,a.2)) xss ps
theorem avc {Φ:World→Prop} {L:List aad}:∀ (xss:List (List Ins)) (ps:List (Option Addr×Nat)),xss.length=ps.length→(∀ u,Φ u→∀ (i:Nat) xs a,xss[i]?=some xs→ps[i]?=some a→Sl (afF SR1.kt 3) 3 u u.heap.size a.1 xs∧xs.length≤a.2) →
  Ent (afN Φ::L) (acB SR1.kt (pcS SR1.kt) 18 xss ((aCn xss ps).map apy)++afN Φ::L)
 | [],[],_,_ =>Ent.refl
 | [],_::_,h,_ =>by cases h
 | _::_,[],h,_ =>by cases h
 | xs::xss,a::ps,hl,hΦ =>by
  have ih:=avc (Φ:=Φ) (L:=L) xss ps (by simpa using hl) fun u hu i ys b h1 h2 =>hΦ u hu (i+1) ys b h1 h2
  refine am8.trans (fun h hs =>?_)
  have h1:=abz (A:=afN Φ) ih hs
  refine aaO (A':=pcS SR1.kt (.ro 3 xs) (.slice a.1 xs.length a.2)) (fun k hk =>?_) h1
  refine aaJ.2 (show pcW SR1.kt (obS SR1.kt) (rwS SR1.kt) (.ro 3 xs) (.slice a.1 xs.length a.2) k from ⟨a.1,a.2,rfl,?_⟩)
  exact aet (fun u hu =>hΦ u hu 0 xs a rfl rfl) _ hk
theorem aCY {B:Nat} {w:World} {A R F:aad} {N:List aad} (s:Sat B w (N++A::[R,F])):Sat B w ((R::N)++[A,F]):=s.perm (aaq fun f g h1 h2 h3 =>by simp only [List.cons_append,h1,h2,h3]; omega)
theorem atW (xss:List (List Ins)) (hl:xss.length≤1000000) (B:Nat) (W:World) (v:Value) (F:aad) (w:World) (hw:Cls B W [pcS SR1.kt (.rr 3 xss) v,F] w) :
  Calls Tryz.prog ajw.f #[v] w fun e w' =>∃ u,e=.returned u∧Cls B W [pcS SR1.kt (.row 18 xss) u,F] w':=by
 obtain ⟨hb,hB,hs⟩:=hw
 have s1:Sat B w ((fun h =>∃ A cap,v=.slice A xss.length cap∧rrS (afF SR1.kt 3) (SR1.kt.sz 3) A cap xss h)::[F]):=abl (amT (S:=SR1) (f:=.rr 3 xss) (fun _ h =>h) fun _ _ h =>h) hs
 obtain ⟨h,H,k1,k2,a,e,⟨A,cap,rfl,ps0,h1⟩,h2⟩:=s1
 have s2:Sat B w (afN _::[F]):=⟨h,H,k1,k2,a,e,h1,h2⟩
 have h3:=am7 s2 List.mem_cons_self
 have hps:xss.length≤ps0.length:=by
  rcases Nat.eq_zero_or_pos xss.length with h0 | h0
  ·omega
  ·obtain ⟨a,ha,_⟩:=h3.2 (xss.length-1) _ (List.getElem?_eq_getElem (Nat.sub_lt h0 Nat.one_pos))
   have:=(List.getElem?_eq_some_iff.1 ha).1
   omega
 obtain ⟨ps,hpe⟩:∃ ps,ps=ps0.take xss.length:=⟨_,rfl⟩
 have hpl:xss.length=ps.length:=by rw [hpe,List.length_take]; omega
 have hpg:∀ (i:Nat) b,ps[i]?=some b→ps0[i]?=some b:=fun i b hb =>by
  rw [hpe,List.getElem?_take] at hb
  split at hb
  ·exact hb
  ·cases hb
 have hrl:(aCn xss ps).length=xss.length:=by unfold aCn; rw [List.length_zipWith]; omega
 have hsl:Sl apy 1 w w.heap.size A (aCn xss ps):=by
  refine ⟨by omega,fun hne =>?_⟩
  have hpos:0<xss.length:=by rw [← hrl]; exact List.length_pos_iff.2 hne
  obtain ⟨a0,_,_,b,o,hA,hlt,_⟩:=h3.2 0 _ (List.getElem?_eq_getElem hpos)
  refine ⟨b,o,hA,hlt,fun i x hi j u hu =>?_⟩
  unfold aCn at hi
  rw [List.getElem?_zipWith] at hi
  cases hx:xss[i]? with
  | none =>rw [hx] at hi; simp at hi
  | some xs =>
   cases hy:ps[i]? with
   | none =>rw [hx,hy] at hi; simp at hi
   | some a =>
    rw [hx,hy] at hi
    obtain rfl:=Option.some.inj hi
    obtain ⟨a',ha',_,b',o',hA',_,hc⟩:=h3.2 i xs hx
    rw [hpg i a hy] at ha'
    obtain rfl:=Option.some.inj ha'
    rw [hA] at hA'
    cases hA'
    cases j with
    | zero =>
     obtain rfl:=Option.some.inj hu
     rw [Nat.mul_one,Nat.add_zero]; exact hc
    | succ j =>simp [apy] at hu
 have hcl:=atX A cap (aCn xss ps) w hsl (by omega)
 rw [hrl] at hcl
 refine hcl.mono fun e w' ⟨⟨A',c',he,hown⟩,hb'⟩ =>⟨.slice A' xss.length c',by rw [he,hrl],hb.trans (hb'.mono hB),Nat.le_trans hB hb'.size,?_⟩
 rw [hrl] at hown
 have s3:=al3 s2 hb' hB hown
 have s4:Sat B w' (afN _::[afQ A' xss.length c' 1 ((aCn xss ps).flatMap apy),F]):=s3.perm (List.Perm.swap ..)
 have s5:=s4.imp (avc xss ps hpl fun u hu i xs a hx hy =>by
  obtain ⟨a',ha',hq,_⟩:=hu.2 i xs hx
  rw [hpg i a hy] at ha'
  obtain rfl:=Option.some.inj ha'
  exact hq)
 have s6:=aCY s5
 have s7:=aiF (A:=pcS SR1.kt (.row 18 xss) (.slice A' xss.length c')) (fun k hk =>aaJ.2 (show pcW SR1.kt (obS SR1.kt) (rwS SR1.kt) (.row 18 xss) _ k from ⟨A',c',rfl,adO.2 ⟨(aCn xss ps).map apy,by
  rw [show ((aCn xss ps).map apy).flatten=(aCn xss ps).flatMap apy from by rw [List.flatMap_def]]
  exact hk⟩⟩)) s6
 exact (s7.perm (List.Perm.swap ..)).drop
theorem avH:CO Tryz.prog ajw:=fun x out hx B W hg vs F w hw =>by
 obtain ⟨hb,hB,hs⟩:=hw
 replace hx:aiZ x.1=some out:=hx
 unfold aiZ at hx
 split at hx
 ·rename_i hl
  cases hx
  show agT Tryz.prog ajw.f _ w _
  rw [aeA rfl]
  rcases vs with _ | ⟨v,_ | ⟨v2,vs⟩⟩
  ·exact aaP hs
  ·exact (atW x.1 hl B W v F w ⟨hb,hB,hs⟩).mono fun e w' ⟨u,he,h⟩ =>⟨[u],he,h⟩
  ·replace hs:Sat B w (pcS SR1.kt (.rr 3 x.1) v::([fun _ =>False]++[F])):=hs
   exact aaP hs.drop
 ·cases hx
end
section
open Go.RowKit
set_option maxHeartbeats 400000 in
theorem agS (a b c:Int) (w:World) :
  Calls Tryz.prog 89 #[.int .i64 a,.int .i64 b,.int .i64 c] w fun e w' =>e=.returned (.bool (inB a b c))∧w=w':=by
 unfold inB
 by_cases h:b≤a
 all_goals
  go_enter Tryz.func89,Tryz.ntmps89
  go_wp2
  go_ret
  all_goals (simp [*]<;>omega)
set_option maxHeartbeats 400000 in
theorem agF (a b c:Int) (w:World) :
  Calls Tryz.prog 73 #[.int .i64 a,.int .i64 b,.int .i64 c] w fun e w' =>e=.returned (.bool (inB a b c))∧w=w':=by
 unfold inB
 by_cases h:b≤a
 all_goals
  go_enter Tryz.func73,Tryz.ntmps73
  go_wp2
  go_ret
  all_goals (simp [*]<;>omega)
set_option maxHeartbeats 1000000 in
theorem aip (c:Cfg) (l:CfgAt) (w:World) :
  Calls Tryz.prog 69 #[ap5 c l] w fun e w' =>e=.returned (.bool (aiR c))∧Below w.heap.size w w':=by
 unfold ap5 aiR
 by_cases hl:c.levels<8
 all_goals
  go_enter Tryz.func69,Tryz.ntmps69
  go_wp2_with (first | (go_at_call 89; refine (agS _ _ _ _).mono ?_; rintro e w' ⟨rfl,rfl⟩))
  all_goals go_ret
  all_goals simp [*]
  all_goals exact (Below.refl _ _).alloc (Nat.le_refl _) _
set_option maxHeartbeats 1000000 in
theorem ao3 (c:Cfg) (l:CfgAt) (x:Ins) (w:World) (h1:1≤c.levels) (h2:c.levels≤64) (hp:c.progs.length≤9223372036854775807) :
  Calls Tryz.prog 90 #[ap5 c l,.agg #[.int .i64 x.op,.int .i64 x.a,.int .i64 x.b]] w fun e w' =>e=.returned (.bool (ama c.levels c.progs.length x))∧Below w.heap.size w w':=by
 unfold ap5
 go_enter Tryz.func90,Tryz.ntmps90
 go_wp2_with (first | (go_at_call 89; refine (agS _ _ _ _).mono ?_; rintro e w' ⟨rfl,rfl⟩))
 all_goals go_ret
 all_goals refine ⟨axD (by unfold ama; simp_all),?_⟩
 all_goals exact ((Below.refl _ _).alloc (Nat.le_refl _) _).alloc (by simp) _
set_option maxHeartbeats 1000000 in
theorem aoS (c:Cfg) (l:CfgAt) (x:Ins) (w:World) (h1:1≤c.levels) (h2:c.levels≤64) (hp:c.progs.length≤9223372036854775807) :
  Calls Tryz.prog 74 #[ap5 c l,.agg #[.int .i64 x.op,.int .i64 x.a,.int .i64 x.b]] w fun e w' =>e=.returned (.bool (ama c.levels c.progs.length x))∧Below w.heap.size w w':=by
 unfold ap5
 go_enter Tryz.func74,Tryz.ntmps74
 go_wp2_with (first | (go_at_call 73; refine (agF _ _ _ _).mono ?_; rintro e w' ⟨rfl,rfl⟩))
 all_goals go_ret
 all_goals refine ⟨axD (by unfold ama; simp_all),?_⟩
 all_goals exact ((Below.refl _ _).alloc (Nat.le_refl _) _).alloc (by simp) _
set_option maxHeartbeats 1000000 in
theorem aii (c:Cfg) (l:CfgAt) (w:World) :
  Calls Tryz.prog 72 #[ap5 c l] w fun e w' =>e=.returned (.bool (aiR c))∧Below w.heap.size w w':=by
 unfold ap5 aiR
 by_cases hl:c.levels<8
 all_goals
  go_enter Tryz.func72,Tryz.ntmps72
  go_wp2_with (first | (go_at_call 73; refine (agF _ _ _ _).mono ?_; rintro e w' ⟨rfl,rfl⟩))
  all_goals go_ret
  all_goals simp [*]
  all_goals exact (Below.refl _ _).alloc (Nat.le_refl _) _
theorem ah7 {lv np:Int} {ps:List (List Ins)} {k:Nat} (hk:k<ps.length) (h:aa0 lv np (ps.drop k)=aa0 lv np ps) (hl:32<ps[k].length):aa0 lv np ps=2:=by
 rw [← h,List.drop_eq_getElem_cons hk]; simp [aa0,hl]
theorem aiP {lv np:Int} {ps:List (List Ins)} {k j:Nat} (hk:k<ps.length) (h:aa0 lv np (ps.drop k)=aa0 lv np ps) (hl:ps[k].length≤32) (hj:j<ps[k].length) (hb:ama lv np ps[k][j]=false):aa0 lv np ps=1:=by
 rw [← h,List.drop_eq_getElem_cons hk]
 have:ps[k].all (ama lv np)=false:=by
  rw [List.all_eq_false]; exact ⟨_,List.getElem_mem hj,by simp [hb]⟩
 simp [aa0,Nat.not_lt.2 hl,this]
theorem ah6 {lv np:Int} {ps:List (List Ins)} {k:Nat} (hk:k<ps.length) (h:aa0 lv np (ps.drop k)=aa0 lv np ps) (hl:ps[k].length≤32) (ha:(ps[k].take ps[k].length).all (ama lv np)=true):aa0 lv np (ps.drop (k+1))=aa0 lv np ps:=by
 rw [← h,List.drop_eq_getElem_cons hk]
 rw [List.take_length] at ha
 simp [aa0,Nat.not_lt.2 hl,ha]
theorem anH {α:Type} {f:α→Bool} {l:List α} {j:Nat} (hj:j<l.length) (h:(l.take j).all f=true) (hf:f l[j]=true):(l.take (j+1)).all f=true:=by
 rw [List.take_succ_eq_append_getElem hj,List.all_append,h]; simp [hf]
def aLD (lv np:Int) (ps:List (List Ins)) (k:Nat):Prop:=aa0 lv np (ps.drop k)=aa0 lv np ps
def aKw (lv np:Int) (p:List Ins) (k:Nat):Prop:=(p.take k).all (ama lv np)=true
@[reducible] def akX (c : Cfg) (l : CfgAt) : Obj := .cells #[.int .i64 c.workers,.int .i64 c.levels,.int .i64 c.classes,.int .i64 c.tasks,.int .i64 c.deque,.int .i64 c.heap,.int .i64 c.batch,.int .i64 c.age,.int .i64 c.patience,.slice l.pa c.progs.length l.pc,.slice l.sa c.subs.length l.sc] 28
set_option maxHeartbeats 2000000 in
theorem akW (c:Cfg) (l:CfgAt) (w:World) (h1:1≤c.levels) (h2:c.levels≤64) (hc:aml w w.heap.size c l) :
  Calls Tryz.prog 70 #[ap5 c l] w fun e w' =>e=.returned (.int .i64 (adb c))∧Below w.heap.size w w':=by
 have hlen:=hc.1.1
 by_cases hp:inB (c.progs.length:Int) 1 32=true
 ·have hfin:adb c=aa0 c.levels c.progs.length c.progs:=by simp [adb,hp]
  have Hfin:=Lib.hid hfin
  clear hfin
  unfold ap5
  go_enter Tryz.func70,Tryz.ntmps70
  go_wp2_with (first | (go_at_call 89; refine (agS _ _ _ _).mono ?_; rintro e w' ⟨rfl,rfl⟩))
  go_loopw [15] (fun i wr =>∃ k:Nat,k≤c.progs.length∧i=.int .i64 k∧aLD c.levels c.progs.length c.progs k∧Below (w.heap.size+1) (w.alloc (akX c l)) wr) (fun i _ =>c.progs.length-(intOf i).toNat)
  case atStart =>exact ⟨0,Nat.zero_le _,rfl,rfl,Below.refl _ _⟩
  case round =>
   obtain ⟨k,hk,rfl,hi,hb⟩:=hrel
   have hB:w.heap.size<wr.heap.size:=by have:=hb.size; simp at this; omega
   have hbw:Below w.heap.size w wr:=((Below.refl _ _).alloc (Nat.le_refl _) _).trans (hb.mono (by omega))
   by_cases hlt:k<c.progs.length
   ·obtain ⟨b,o,hpa,hbb,Ai,ci,hcell,hsl⟩:=hc.1.at_ hlt
    have hln:=hsl.len
    obtain ⟨hcs,hfz⟩:=anC hb
    by_cases hlong:32<c.progs[k].length
    ·have hres:=Lib.hid (ah7 hlt hi hlong)
     obtain ⟨pa,pc,sa,sc⟩:=l
     obtain rfl:pa=some ⟨b,o,none⟩:=hpa
     go_wp2
     go_ret
     exact ⟨adm (by rw [Hfin.out,hres.out]),hbw⟩
    ·obtain ⟨pa,pc,sa,sc⟩:=l
     obtain rfl:pa=some ⟨b,o,none⟩:=hpa
     go_wp2
     obtain ⟨wo,rfl⟩:∃ wo:World,wo=wr:=⟨_,rfl⟩
     clear hcs hfz
     go_loopw [24] (fun i ws =>∃ j:Nat,j≤c.progs[k].length∧i=.int .i64 j∧aKw c.levels c.progs.length c.progs[k] j∧Below (w.heap.size+1) (w.alloc (akX c ⟨some ⟨b,o,none⟩,pc,sa,sc⟩)) ws) (fun i _ =>c.progs[k].length-(intOf i).toNat)
     case atStart =>exact ⟨0,Nat.zero_le _,rfl,by simp [aKw],hb⟩
     case round =>
      obtain ⟨j,hj,rfl,hq,hb2⟩:=hrel
      have hB2:w.heap.size<wr.heap.size:=by have:=hb2.size; simp at this; omega
      have hbw2:Below w.heap.size w wr:=((Below.refl _ _).alloc (Nat.le_refl _) _).trans (hb2.mono (by omega))
      by_cases hjt:j<c.progs[k].length
      ·obtain ⟨b2,o2,hpa2,hbb2,hcc⟩:=hsl.at_ hjt
       obtain rfl:Ai=some ⟨b2,o2,none⟩:=hpa2
       obtain ⟨hcs,hfz⟩:=anC hb2
       have c0:w.cell? ⟨b2,o2+j*3,none⟩=some (.int .i64 c.progs[k][j].op):=hcc j hjt 0 _ rfl
       have c1:w.cell? ⟨b2,o2+j*3+1,none⟩=some (.int .i64 c.progs[k][j].a):=hcc j hjt 1 _ rfl
       have c2:w.cell? ⟨b2,o2+j*3+2,none⟩=some (.int .i64 c.progs[k][j].b):=hcc j hjt 2 _ rfl
       by_cases hok:ama c.levels c.progs.length c.progs[k][j]=true
       ·go_wp2_with (first | (go_at_call 90; refine (ao3 c ⟨some ⟨b,o,none⟩,pc,sa,sc⟩ c.progs[k][j] _ h1 h2 hlen).mono ?_; rintro e w' ⟨rfl,hbv⟩))
        go_roundw
        case rel =>exact ⟨j+1,by omega,by go_num,anH hjt hq hok,(hb2.alloc (by omega) _).trans (hbv.mono (by simp; omega))⟩
        case measure =>simp [intOf]; omega
       ·have hok':ama c.levels c.progs.length c.progs[k][j]=false:=by simpa using hok
        clear hok
        have hres:=Lib.hid (aiP hlt hi (by omega) hjt hok')
        go_wp2_with (first | (go_at_call 90; refine (ao3 c ⟨some ⟨b,o,none⟩,pc,sa,sc⟩ c.progs[k][j] _ h1 h2 hlen).mono ?_; rintro e w' ⟨rfl,hbv⟩))
        go_ret
        exact ⟨adm (by rw [Hfin.out,hres.out]),((Below.refl _ _).alloc (Nat.le_refl _) _).trans (((hb2.alloc (by omega) _).trans (hbv.mono (by simp; omega))).mono (by omega))⟩
      ·obtain ⟨hcs,hfz⟩:=anC hb2
       go_wp2
       go_roundw
       case rel =>exact ⟨k+1,by omega,by go_num,ah6 hlt hi (by omega) (by
        have e:j=c.progs[k].length:=by omega
        subst e; exact hq),hb2⟩
       case measure =>simp [intOf]; omega
   ·go_wp2
    go_ret
    exact ⟨adm (by
     have hi':aa0 c.levels c.progs.length (c.progs.drop k)=aa0 c.levels c.progs.length c.progs:=hi
     rw [Hfin.out,← hi',List.drop_eq_nil_of_le (by omega)]; rfl),hbw⟩
 ·have hfin:adb c=2:=by simp [adb,hp]
  have Hfin:=Lib.hid hfin
  clear hfin
  unfold ap5
  go_enter Tryz.func70,Tryz.ntmps70
  go_wp2_with (first | (go_at_call 89; refine (agS _ _ _ _).mono ?_; rintro e w' ⟨rfl,rfl⟩))
  go_ret
  exact ⟨adm Hfin.out.symm,(Below.refl _ _).alloc (Nat.le_refl _) _⟩
theorem ajJ {lv np:Int} {ss:List Sub} {k:Nat} (hk:k<ss.length) (h:adl lv np (ss.drop k)=adl lv np ss) {e:Int} (he:aoP lv np ss[k]=e) (hne:e≠0):adl lv np ss=e:=by
 subst he
 rw [← h,List.drop_eq_getElem_cons hk]; simp [adl,hne]
theorem aiy {lv np:Int} {ss:List Sub} {k:Nat} (hk:k<ss.length) (h:adl lv np (ss.drop k)=adl lv np ss) (he:aoP lv np ss[k]=0):adl lv np (ss.drop (k+1))=adl lv np ss:=by
 rw [← h,List.drop_eq_getElem_cons hk]; simp [adl,he]
def aLC (lv np:Int) (ss:List Sub) (k:Nat):Prop:=adl lv np (ss.drop k)=adl lv np ss
set_option maxHeartbeats 2000000 in
theorem aw8 (c:Cfg) (l:CfgAt) (w:World) (h1:1≤c.levels) (h2:c.levels≤64) (hc:aml w w.heap.size c l) :
  Calls Tryz.prog 71 #[ap5 c l] w fun e w' =>e=.returned (.int .i64 (aeI c))∧Below w.heap.size w w':=by
 have hlen:=hc.1.1
 have hlen2:=hc.2.1
 by_cases hp:64<c.subs.length
 ·have hfin:aeI c=2:=by simp [aeI,hp]
  have Hfin:=Lib.hid hfin
  clear hfin
  unfold ap5
  go_enter Tryz.func71,Tryz.ntmps71
  go_wp2
  go_ret
  exact ⟨adm Hfin.out.symm,(Below.refl _ _).alloc (Nat.le_refl _) _⟩
 ·have hfin:aeI c=adl c.levels c.progs.length c.subs:=by simp [aeI,hp]
  have Hfin:=Lib.hid hfin
  clear hfin
  unfold ap5
  go_enter Tryz.func71,Tryz.ntmps71
  go_wp2
  go_loopw [12] (fun i wr =>∃ k:Nat,k≤c.subs.length∧i=.int .i64 k∧aLC c.levels c.progs.length c.subs k∧Below (w.heap.size+1) (w.alloc (akX c l)) wr) (fun i _ =>c.subs.length-(intOf i).toNat)
  case atStart =>exact ⟨0,Nat.zero_le _,rfl,rfl,Below.refl _ _⟩
  case round =>
   obtain ⟨k,hk,rfl,hi,hb⟩:=hrel
   have hB:w.heap.size<wr.heap.size:=by have:=hb.size; simp at this; omega
   have hbw:Below w.heap.size w wr:=((Below.refl _ _).alloc (Nat.le_refl _) _).trans (hb.mono (by omega))
   obtain ⟨hcs,hfz⟩:=anC hb
   by_cases hlt:k<c.subs.length
   ·obtain ⟨b,o,hpa,hbb,hcc⟩:=hc.2.at_ hlt
    obtain ⟨pa,pc,sa,sc⟩:=l
    obtain rfl:sa=some ⟨b,o,none⟩:=hpa
    have c0:w.cell? ⟨b,o+k*3,none⟩=some (.int .i64 c.subs[k].prog):=hcc k hlt 0 _ rfl
    have c1:w.cell? ⟨b,o+k*3+1,none⟩=some (.int .i64 c.subs[k].level):=hcc k hlt 1 _ rfl
    have c2:w.cell? ⟨b,o+k*3+2,none⟩=some (.int .i64 c.subs[k].deadline):=hcc k hlt 2 _ rfl
    have hse:aoP c.levels c.progs.length c.subs[k]=if !inB c.subs[k].prog 0 (c.progs.length-1) then 3 else if !inB c.subs[k].level 0 (c.levels-1) || !inB c.subs[k].deadline 0 16777215 then 1 else 0:=rfl
    have Hse:=Lib.hid hse
    clear hse
    have bad:=fun e he hne =>Lib.hid (ajJ (e:=e) hlt hi he hne)
    by_cases g1:inB c.subs[k].prog 0 (c.progs.length-1)=true
    ·by_cases g2:inB c.subs[k].level 0 (c.levels-1)=true
     ·by_cases g3:inB c.subs[k].deadline 0 16777215=true
      ·go_wp2_with (first | (go_at_call 89; refine (agS _ _ _ _).mono ?_; rintro e w' ⟨rfl,rfl⟩))
       go_roundw
       case rel =>exact ⟨k+1,by omega,by go_num,aiy hlt hi (by rw [Hse.out]; simp [g1,g2,g3]),hb.alloc (by omega) _⟩
       case measure =>simp [intOf]; omega
      ·go_wp2_with (first | (go_at_call 89; refine (agS _ _ _ _).mono ?_; rintro e w' ⟨rfl,rfl⟩))
       go_ret
       exact ⟨adm (by rw [Hfin.out,(bad 1 (by rw [Hse.out]; simp [g1,g2,g3]) (by omega)).out]),hbw.alloc (by omega) _⟩
     ·go_wp2_with (first | (go_at_call 89; refine (agS _ _ _ _).mono ?_; rintro e w' ⟨rfl,rfl⟩))
      go_ret
      exact ⟨adm (by rw [Hfin.out,(bad 1 (by rw [Hse.out]; simp [g1,g2]) (by omega)).out]),hbw.alloc (by omega) _⟩
    ·go_wp2_with (first | (go_at_call 89; refine (agS _ _ _ _).mono ?_; rintro e w' ⟨rfl,rfl⟩))
     go_ret
     exact ⟨adm (by rw [Hfin.out,(bad 3 (by rw [Hse.out]; simp [g1]) (by omega)).out]),hbw.alloc (by omega) _⟩
   ·go_wp2
    go_ret
    exact ⟨adm (by
     have hi':adl c.levels c.progs.length (c.subs.drop k)=adl c.levels c.progs.length c.subs:=hi
     rw [Hfin.out,← hi',List.drop_eq_nil_of_le (by omega)]; rfl),hbw⟩
set_option maxHeartbeats 2000000 in
theorem avK (c:Cfg) (l:CfgAt) (w:World) (hc:aml w w.heap.size c l) :
  Calls Tryz.prog 39 #[ap5 c l] w fun e w' =>e=.returned (.int .i64 (adI c))∧Below w.heap.size w w':=by
 by_cases hn:aiR c=true
 ·obtain ⟨_,_,h1,h2,_⟩:=ahP hn
  by_cases hp:adb c=0
  ·have hfin:adI c=aeI c:=by simp [adI,hn,hp]
   have Hfin:=Lib.hid hfin
   clear hfin
   unfold ap5
   go_enter Tryz.func39,Tryz.ntmps39
   go_wp2_with fail
   refine (aip c l _).mono ?_; rintro e w1 ⟨rfl,hb1⟩
   obtain ⟨hc1,hf1⟩:=anC hb1
   have hw1:=ahu hb1
   go_wp2_with fail
   refine (akW c l _ h1 h2 (hc.up hw1)).mono ?_; rintro e w2 ⟨rfl,hb2⟩
   have hw2:=ai1 hw1 hb2
   obtain ⟨hc2,hf2⟩:=anC (ai1 hb1 hb2)
   clear hc1 hf1
   go_wp2_with fail
   refine (aw8 c l _ h1 h2 (hc.up hw2)).mono ?_; rintro e w3 ⟨rfl,hb3⟩
   go_wp2_with fail
   go_ret
   exact ⟨adm Hfin.out.symm,ai1 hw2 hb3⟩
  ·have hfin:adI c=adb c:=by simp [adI,hn,hp]
   have Hfin:=Lib.hid hfin
   have hp':(adb c == 0)=false:=by simpa using hp
   clear hfin hp
   unfold ap5
   go_enter Tryz.func39,Tryz.ntmps39
   go_wp2_with fail
   refine (aip c l _).mono ?_; rintro e w1 ⟨rfl,hb1⟩
   obtain ⟨hc1,hf1⟩:=anC hb1
   have hw1:=ahu hb1
   go_wp2_with fail
   refine (akW c l _ h1 h2 (hc.up hw1)).mono ?_; rintro e w2 ⟨rfl,hb2⟩
   have hw2:=ai1 hw1 hb2
   obtain ⟨hc2,hf2⟩:=anC (ai1 hb1 hb2)
   clear hc1 hf1
   go_wp2_with fail
   go_ret
   exact ⟨adm Hfin.out.symm,hw2⟩
 ·have hfin:adI c=1:=by simp [adI,hn]
  have Hfin:=Lib.hid hfin
  clear hfin
  unfold ap5
  go_enter Tryz.func39,Tryz.ntmps39
  go_wp2_with fail
  refine (aip c l _).mono ?_; rintro e w1 ⟨rfl,hb1⟩
  have hw1:=ahu hb1
  go_wp2_with fail
  go_ret
  exact ⟨adm Hfin.out.symm,hw1⟩
end
section
open Go Go.RowKit
variable [Tb]
theorem aBI {f:FuncId} (hf:Nat.blt f agX=true) {r:Cfg→Int} (h:∀ (c:Cfg) (l:CfgAt) (w:World),aml w w.heap.size c l→Calls Tryz.prog f #[ap5 c l] w fun e w' =>e=.returned (.int .i64 (r c))∧Below w.heap.size w w') :
  CO Tryz.prog (⟨f,[.val 13],[.sh sI_],fun x =>some ((r x.1,()),())⟩:Con SR1):=fun x out hx B W hg vs F w hc =>by
 obtain ⟨hb,hB,hs⟩:=hc
 replace hx:(some ((r x.1,()),()):Option ((Int×Unit)×Unit))=some out:=hx
 obtain rfl:=Option.some.inj hx
 show agT Tryz.prog f _ w _
 rw [aeA hf]
 rcases vs with _ | ⟨v1,_ | ⟨v2,vs⟩⟩
 ·exact aaP hs
 ·replace hs:Sat B w (aCz SR1 13 x.1 v1::[F]):=hs
  obtain ⟨p,rfl,hp,s1⟩:=aFX hs
  exact (h x.1 p w hp).mono fun e w' ⟨he,hb'⟩ =>⟨[.int .i64 (r x.1)],he,hb.trans (hb'.mono hB),Nat.le_trans hB hb'.size,aIl (S:=SR1) (s1.below hb')⟩
 ·replace hs:Sat B w (aCz SR1 13 x.1 v1::([fun _ =>False]++[F])):=hs
  exact aaP hs.drop
def ajB (c:Cfg):Option ((Int×Unit)×Unit):=some ((adI c,()),())
noncomputable abbrev ai0:Con SR1:=⟨39,[.val 13],[.sh sI_],fun x =>ajB x.1⟩
theorem ajA:CO Tryz.prog ai0:=aBI (by kernel_rfl) avK
end
section
open Go
def aaD {α:Type} (o:Option α) (P:α→Prop):Prop:=∃ x,o=some x∧P x
section
variable {α β:Type} {o:Option α} {P Q:α→Prop} {x:α}
theorem aaD.some_ (h:P x):aaD (some x) P:=⟨x,rfl,h⟩
theorem aaD.bind {f:α→Option β} {Q:β→Prop} (h:aaD o P) (k:∀ x,P x→aaD (f x) Q):aaD (o.bind f) Q:=by
 obtain ⟨x,rfl,hx⟩:=h
 exact k x hx
theorem aaD.ite {c:Prop} [Decidable c] {a b:Option α} (h1:c→aaD a P) (h2:¬ c→aaD b P):aaD (if c then a else b) P:=by
 by_cases h:c
 ·rw [if_pos h]; exact h1 h
 ·rw [if_neg h]; exact h2 h
theorem aaD.guard {c:Prop} [Decidable c] {a b:Option α} (h:c) (k:c→aaD a P):aaD (if c then a else b) P:=by rw [if_pos h]; exact k h
theorem aaD.mono (h:aaD o P) (k:∀ x,P x→Q x):aaD o Q:=by
 obtain ⟨x,e,hx⟩:=h
 exact ⟨x,e,k x hx⟩
end
def Rg (x:Int):Prop := -9223372036854775808≤x∧x≤9223372036854775807
theorem aaC {x:Int} (h:Rg x):wi x=x:=w64 h.1 h.2
theorem aai {x:Int} (h:-1000000000000≤x∧x≤1000000000000):Rg x:=by unfold Rg; omega
theorem asH {a b:Int} (h1:1≤b) (h2:0≤a):0≤Int.tmod a b∧Int.tmod a b<b:=⟨Int.tmod_nonneg b h2,Int.tmod_lt_of_pos a (by omega)⟩
theorem abj {σ β:Type} {F:(σ→Option β)→σ→Option β} (I:σ→Prop) (μ:σ→Nat) {P:β→Prop} (step:∀ self x,I x→(∀ y,I y→μ y<μ x→aaD (self y) P)→aaD (F self x) P):∀ k x,I x→μ x<k→aaD (lpF F k x) P
 | 0,x,_,h =>by omega
 | k+1,x,hx,h =>step (lpF F k) x hx fun y hy hlt =>abj I μ step k y hy (by omega)
theorem ar2 {α:Type} {d:α} {xs:List α} {i:Int} (h:0≤i∧i<(xs.length:Int)):atL d xs i∈xs:=List.mem_of_getElem? (aff h)
theorem aoB {α β:Type} {G:Prop} [d:Decidable G] (A:Option α) (f:α→Option β):(A.bind fun r =>if G then f r else none)=if G then A.bind f else none:=by
 by_cases h:G
 ·simp only [if_pos h]
 ·simp only [if_neg h]; cases A<;>rfl
end
section
open Go.RowKit Go.Maps
set_option maxRecDepth 100000
end
section
open Go Go.RowKit
variable [Tb]
set_option maxRecDepth 100000
end
section
open Go Go.RowKit Go.Maps
set_option maxRecDepth 100000
def tzI (x:Int):Int:=IntKind.u64.wrap (bits BinOp.and IntKind.u64 x (IntKind.u64.wrap (-x))*285870213051353865) / 288230376151711744
theorem aId (a:Int):0≤IntKind.u64.wrap a∧IntKind.u64.wrap a≤18446744073709551615:=by
 simp only [IntKind.wrap,IntKind.bits,IntKind.signed]
 simp
 omega
theorem azv (x:Int):0≤tzI x∧tzI x<64:=by
 unfold tzI
 have h:=aId (bits BinOp.and IntKind.u64 x (IntKind.u64.wrap (-x))*285870213051353865)
 omega
theorem aFp (w:World):Calls Tryz.prog 197 #[.int .u64 0] w fun e w' =>e=.returned (.int .i64 64)∧w'=w:=by
 go_enter Tryz.func197,Tryz.ntmps197
 go_wp2
 go_ret
 exact ⟨rfl,rfl⟩
theorem aCA (w:World) (x:Int) (h:¬ x=0) (b:Int) (hI:0≤IntKind.u64.wrap (bits BinOp.and IntKind.u64 x (IntKind.u64.wrap (-x))*285870213051353865) / 288230376151711744∧IntKind.u64.wrap (bits BinOp.and IntKind.u64 x (IntKind.u64.wrap (-x))*285870213051353865) / 288230376151711744<64) (hb:w.cell? ⟨0,(IntKind.u64.wrap (bits BinOp.and IntKind.u64 x (IntKind.u64.wrap (-x))*285870213051353865) / 288230376151711744).toNat,none⟩=some (.int .u8 b)):Calls Tryz.prog 197 #[.int .u64 x] w fun e w' =>e=.returned (.int .i64 (wrap64 b))∧w'=w:=by
 go_enter Tryz.func197,Tryz.ntmps197
 go_wp2
 go_ret
 exact ⟨rfl,rfl⟩
variable [T:Tb]
def tzV (x:Int):Int:=if x=0 then 64 else wrap64 (T.tb (tzI x).toNat)
def pTz (x:Int):Option ((Int×Unit)×Unit):=some ((tzV x,()),())
noncomputable abbrev aGj:Con SR1:=⟨197,[.sh sU_],[.sh sI_],fun x =>pTz x.1⟩
theorem aIE:CO Tryz.prog aGj:=fun x out hx B W hg vs F w hw =>by
 obtain ⟨hb,hB,hs⟩:=hw
 obtain ⟨(x:Int),u⟩:=x
 cases hx
 show agT Tryz.prog aGj.f _ w _
 rw [aeA rfl]
 rcases vs with _ | ⟨v,_ | ⟨v2,vs⟩⟩
 ·exact aaP hs
 ·have hs0:Sat B w (pcS SR1.kt (.i .u64 x) v::[F]):=hs
  have hv:v=.int .u64 x:=by
   obtain ⟨_,_,_,_,_,_,h1,_⟩:=hs0
   exact (aaJ.1 h1:v=.int .u64 x)
  subst hv
  have hc:Calls Tryz.prog 197 #[.int .u64 x] w fun e w' =>e=.returned (.int .i64 (tzV x))∧w'=w:=by
   by_cases h:x=0
   ·subst h
    exact aFp w
   ·refine (aCA w x h (T.tb (tzI x).toNat) (azv x) ?_).mono fun e w' ⟨he,hw⟩ =>⟨by rw [he]; unfold tzV; rw [if_neg h],hw⟩
    exact ((anC hb).1 0 _ hg.1).trans (hg.2 _ ((Int.toNat_lt (azv x).1).2 (azv x).2))
  refine hc.mono fun e w' ⟨he,hw'⟩ =>⟨[.int .i64 (tzV x)],he,?_⟩
  subst hw'
  exact ⟨hb,hB,abn (p:=pcS SR1.kt (.i .i64 (tzV x)) (.int .i64 (tzV x))) hs0.drop fun h =>aaJ.2 rfl⟩
 ·replace hs:Sat B w (pcS SR1.kt (.i .u64 x) v::([fun _ =>False]++[F])):=hs
  exact aaP hs.drop
end
section
open Go.RowKit Go.Maps
def avw (x:Int):List Value:=[.int .u64 x]
theorem aBP:(Tryz.prog.info? 48).map (fun i =>(i.zero,i.size,i.bytes))=some (some (.int .u64 0),1,8):=by kernel_rfl
set_option maxHeartbeats 2000000 in
theorem avF (A:Option Addr) (cap:Nat) (xs:List Int) (w:World) (hx:Sl avw 1 w w.heap.size A xs) (hn:xs.length≤1000000) :
  Calls Tryz.prog 68 #[.slice A xs.length cap] w (asD avw 1 48 w xs):=by
 cases A with
 | none =>
  have hnil:xs=[]:=by
   rcases xs with _ | ⟨x,xs⟩
   ·rfl
   ·obtain ⟨b,o,e,_⟩:=hx.2 (by simp)
    cases e
  subst hnil
  have q:∀ (w:World) (a:Option Addr) (n c n' c':Nat),(binOp .eql 41 (.slice a n c) (.slice none n' c')).run Tryz.prog w=.ok (.bool a.isNone) w:=fun w a n c n' c' =>Lib.run_eql_slice_nil w _ _ a n c n' c' Tryz.underlying41
  go_enter Tryz.func68,Tryz.ntmps68
  go_wp2
  go_ret
  exact ⟨⟨none,0,rfl,World.ownsRow_nil _ _ _ _⟩,Below.refl _ _⟩
 | some a =>
  obtain ⟨i0,hi,hz0,hz1,hz2⟩:=info_parts aBP
  have q:∀ (w:World) (a:Option Addr) (n c n' c':Nat),(binOp .eql 41 (.slice a n c) (.slice none n' c')).run Tryz.prog w=.ok (.bool a.isNone) w:=fun w a n c n' c' =>Lib.run_eql_slice_nil w _ _ a n c n' c' Tryz.underlying41
  have hcell:=Lib.hid (asO (sz:=1) (w:=w) (B:=w.heap.size) (fun _ =>rfl) (by decide) hx (Obj.cells #[] 48))
  clear hx
  go_enter Tryz.func68,Tryz.ntmps68
  go_wp2_with (at_builtin; refine wpList_append_own_at _ rfl _ _ 41 rfl w.heap.size 48 i0 (.int .u64 0) 1 8 Tryz.underlying41 hi hz0 hz1 hz2 rfl (by decide) _ _ _ rfl (World.ownsRow_made w #[] 0 (Nat.le_refl _) (Nat.zero_le _) rfl) a xs.length cap (xs.flatMap avw) rfl ?qc0 ?qc1 ?qc2 ?qc3 ?qc4 ?qc5 ?_)
  case qc0 =>exact aiW (enc:=avw) (sz:=1) (fun _ =>rfl) xs
  case qc1 =>exact hcell.out
  case qc2 =>intro u hu; rw [List.mem_flatMap] at hu; obtain ⟨x,_,hu⟩:=hu; simp [avw] at hu; subst hu; rfl
  case qc3 =>unfold maxLen; omega
  case qc4 =>omega
  case qc5 =>simp
  intro v' w1 hown hgrow _ _
  obtain ⟨A',c',hv⟩:=amN hown
  subst hv
  clear hcell
  go_wp2
  go_ret
  exact ⟨⟨A',c',by simp,by simpa using hown⟩,((Below.refl _ w).alloc (Nat.le_refl _) _).grown hgrow (by simp) (by intro k hk; simp [Value.ownBlock] at hk; omega)⟩
end
section
open Go Go.RowKit
variable [Tb]
noncomputable def ant (l:List Int):Option ((List Int×Unit)×(List Int×Unit)):=if l.length≤1000000 then some ((l,()),(l,())) else none
noncomputable abbrev asv:Con SR1:=⟨68,[.lent 0],[.sh (.row 0)],fun x =>ant x.1⟩
theorem azY {B:Nat} {w:World} {c:Nat} {xs:List (SR1.T c)} {v:Value} {F:aad} (s:Sat B w [pcS SR1.kt (.row c xs) v,F]):∃ A cap,v=.slice A xs.length cap∧Sat B w (rwS SR1.kt c xs A cap::[F]):=by
 obtain ⟨hh,Hh,k1,k2,ka,ke,h1,hF⟩:=s
 rw [aaJ] at h1
 obtain ⟨A,cap,e,hr⟩:=h1
 exact ⟨A,cap,e,hh,Hh,k1,k2,ka,ke,hr,hF⟩
theorem aHs {f:FuncId} (hf:Nat.blt f agX=true) {c sz:Nat} {el:TypeId} (hp:∀ x,awq (SR1.kt.vw c x)=true) (hpl:SR1.kt.pl c=true) (hz:0<SR1.kt.sz c) (hsz:SR1.kt.sz c=sz) {spec:List (SR1.T c)→Option ((List (SR1.T c)×Unit)×(List (SR1.T c)×Unit))} (hspec:∀ l o,spec l=some o→o=((l,()),(l,()))∧l.length≤1000000)
  (h:∀ (A:Option Addr) (cap:Nat) (xs:List (SR1.T c)) (w:World),Sl (afF SR1.kt c) sz w w.heap.size A xs→xs.length≤1000000→Calls Tryz.prog f #[.slice A xs.length cap] w (asD (afF SR1.kt c) sz el w xs)) :
  CO Tryz.prog ⟨f,[.lent c],[.sh (.row c)],fun x =>spec x.1⟩:=fun x out hx B W hg vs F w hw =>by
 obtain ⟨hb,hB,hs⟩:=hw
 obtain ⟨ho,hl⟩:=hspec x.1 out hx
 subst ho
 show agT Tryz.prog f _ w _
 rw [aeA hf]
 rcases vs with _ | ⟨v,_ | ⟨v2,vs⟩⟩
 ·exact aaP hs
 ·replace hs:Sat B w [pcS SR1.kt (.row c x.1) v,F]:=hs
  obtain ⟨A,cap,rfl,s1⟩:=azY hs
  have hsl:=(auF (axA hpl hz s1) List.mem_cons_self).1
  rw [hsz] at hsl
  refine (h A cap x.1 w hsl hl).mono fun e w' ⟨⟨A',c',he,hown⟩,hb'⟩ =>⟨[.slice A' (List.length x.1) c'],he,hb.trans (hb'.mono hB),Nat.le_trans hB hb'.size,?_⟩
  have s2:=al3 hs hb' hB hown
  rw [← hsz] at s2
  exact amA hp s2
 ·replace hs:Sat B w (pcS SR1.kt (.row c x.1) v::([fun _ =>False]++[F])):=hs
  exact aaP hs.drop
theorem aw4:CO Tryz.prog asv:=aHs rfl (c:=0) (sz:=1) (fun _ =>rfl) rfl (by decide) rfl (spec:=ant) (fun l o h =>by
 unfold ant at h
 split at h
 ·rename_i hl; cases h; exact ⟨rfl,hl⟩
 ·cases h) fun A cap xs w hx hn =>avF A cap xs w hx hn
end
section
open Go Go.RowKit
set_option maxRecDepth 100000
variable [Tb]
noncomputable def aKb (x:Int):Option ((Int×Unit)×(Unit)) :=
 if x=0 then
 some (((-1),()),())
 else
 (pTz x).bind fun r1 =>
 some ((r1.1.1,()),())
noncomputable abbrev aEM:Con SR1:=⟨195,[.sh sU_],[.sh sI_],fun x =>aKb x.1⟩
theorem aGm:CO Tryz.prog aEM:=aam aah Tryz.func195 [aGj] ⟨aIE,trivial⟩
noncomputable def aaw (o:OutV):Option ((Bool×Unit)×(OutV×Unit)) :=
 some ((o.ended,()),(o,()))
noncomputable abbrev abu:Con SR1:=⟨160,[.ref 23],[.sh .b],fun x =>aaw x.1⟩
theorem aa9:CO Tryz.prog abu:=aam aah Tryz.func160 [] trivial
noncomputable def abi (o:OutV) (code:Int) (value:Int):Option ((Bool×Unit)×(OutV×Unit)) :=
 some ((true,()),((⟨true,code,value⟩:OutV),()))
noncomputable abbrev acM:Con SR1:=⟨170,[.ref 23,.sh sI_,.sh sI_],[.sh .b],fun x =>abi x.1 x.2.1 x.2.2.1⟩
theorem abI:CO Tryz.prog acM:=aam aah Tryz.func170 [] trivial
noncomputable def aGk (o:OutV):Option ((Int×Int×Unit)×(OutV×Unit)) :=
 some ((o.code,o.value,()),(o,()))
noncomputable abbrev aaY:Con SR1:=⟨161,[.ref 23],[.sh sI_,.sh sI_],fun x =>aGk x.1⟩
theorem aaS:CO Tryz.prog aaY:=aam aah Tryz.func161 [] trivial
noncomputable def acJ (m:MemV) (a:Int):Option ((Int×Unit)×(MemV×Unit)) :=
 if a<0 then
 some ((0,()),(m,()))
 else
 if ((m.cells.length:Nat):Int)≤a then
 some ((0,()),(m,()))
 else
 if 0≤a∧a<((m.cells.length:Nat):Int) then
 if 0≤a∧a<((m.cells.length:Nat):Int) then
 if 0≤a∧a<(((m.cells.set a.toNat (ahf m.cells a)).length:Nat):Int) then
 some ((ahf m.cells a,()),((⟨m.cells.set a.toNat (ahf m.cells a),⟨1,a,ahf m.cells a,ahf (m.cells.set a.toNat (ahf m.cells a)) a⟩,wi (m.count+1)⟩:MemV),()))
 else none
 else none
 else none
noncomputable abbrev acL:Con SR1:=⟨123,[.ref 9,.sh sI_],[.sh sU_],fun x =>acJ x.1 x.2.1⟩
noncomputable def aDj:List (Nat×Func):=[(133,Tryz.f133),(134,Tryz.f134)]
theorem abW:CO Tryz.prog acL:=ahZ aah Tryz.func123 [] trivial aDj ⟨Tryz.func133,Tryz.func134,trivial⟩ (fun _ =>[]) [] fun x =>by kernel_rfl
noncomputable def aa5 (m:MemV) (a:Int) (v:Int):Option ((Unit)×(MemV×Unit)) :=
 if a<0 then
 some ((()),(m,()))
 else
 if ((m.cells.length:Nat):Int)≤a then
 some ((()),(m,()))
 else
 if 0≤a∧a<((m.cells.length:Nat):Int) then
 if 0≤a∧a<((m.cells.length:Nat):Int) then
 if 0≤a∧a<(((m.cells.set a.toNat v).length:Nat):Int) then
 some ((()),((⟨m.cells.set a.toNat v,⟨2,a,ahf m.cells a,ahf (m.cells.set a.toNat v) a⟩,wi (m.count+1)⟩:MemV),()))
 else none
 else none
 else none
noncomputable abbrev aeh:Con SR1:=⟨126,[.ref 9,.sh sI_,.sh sU_],[],fun x =>aa5 x.1 x.2.1 x.2.2.1⟩
noncomputable def aAq:List (Nat×Func):=[(133,Tryz.f133),(135,Tryz.f135)]
theorem adC:CO Tryz.prog aeh:=ahZ aah Tryz.func126 [] trivial aAq ⟨Tryz.func133,Tryz.func135,trivial⟩ (fun _ =>[]) [] fun x =>by kernel_rfl
noncomputable def auj (m:MemV) (a:Int) (old:Int) (v:Int):Option ((Bool×Unit)×(MemV×Unit)) :=
 if a<0 then
 some ((false,()),(m,()))
 else
 if ((m.cells.length:Nat):Int)≤a then
 some ((false,()),(m,()))
 else
 if 0≤a∧a<((m.cells.length:Nat):Int) then
 if (ahf m.cells a)=old then
 if 0≤a∧a<((m.cells.length:Nat):Int) then
 if 0≤a∧a<(((m.cells.set a.toNat v).length:Nat):Int) then
 some ((decide ((ahf m.cells a)=old),()),((⟨m.cells.set a.toNat v,⟨3,a,ahf m.cells a,ahf (m.cells.set a.toNat v) a⟩,wi (m.count+1)⟩:MemV),()))
 else none
 else none
 else
 if 0≤a∧a<((m.cells.length:Nat):Int) then
 if 0≤a∧a<(((m.cells.set a.toNat (ahf m.cells a)).length:Nat):Int) then
 some ((decide ((ahf m.cells a)=old),()),((⟨m.cells.set a.toNat (ahf m.cells a),⟨3,a,ahf m.cells a,ahf (m.cells.set a.toNat (ahf m.cells a)) a⟩,wi (m.count+1)⟩:MemV),()))
 else none
 else none
 else none
noncomputable abbrev amZ:Con SR1:=⟨177,[.ref 9,.sh sI_,.sh sU_,.sh sU_],[.sh .b],fun x =>auj x.1 x.2.1 x.2.2.1 x.2.2.2.1⟩
noncomputable def aGn:List (Nat×Func):=[(133,Tryz.f133),(179,Tryz.f179)]
theorem aky:CO Tryz.prog amZ:=ahZ aah Tryz.func177 [] trivial aGn ⟨Tryz.func133,Tryz.func179,trivial⟩ (fun _ =>[]) [] fun x =>by kernel_rfl
noncomputable def pOr (m:MemV) (a:Int) (v:Int):Option ((Int×Unit)×(MemV×Unit)) :=
 if a<0 then
 some ((0,()),(m,()))
 else
 if ((m.cells.length:Nat):Int)≤a then
 some ((0,()),(m,()))
 else
 if 0≤a∧a<((m.cells.length:Nat):Int) then
 if 0≤a∧a<((m.cells.length:Nat):Int) then
 if 0≤a∧a<(((m.cells.set a.toNat (orU (ahf m.cells a) v)).length:Nat):Int) then
 some ((ahf m.cells a,()),((⟨m.cells.set a.toNat (orU (ahf m.cells a) v),⟨4,a,ahf m.cells a,ahf (m.cells.set a.toNat (orU (ahf m.cells a) v)) a⟩,wi (m.count+1)⟩:MemV),()))
 else none
 else none
 else none
noncomputable abbrev aDh:Con SR1:=⟨164,[.ref 9,.sh sI_,.sh sU_],[.sh sU_],fun x =>pOr x.1 x.2.1 x.2.2.1⟩
noncomputable def aIF:List (Nat×Func):=[(133,Tryz.f133),(171,Tryz.f171)]
theorem aAs:CO Tryz.prog aDh:=ahZ aah Tryz.func164 [] trivial aIF ⟨Tryz.func133,Tryz.func171,trivial⟩ (fun _ =>[]) [] fun x =>by kernel_rfl
noncomputable def aEN (m:MemV) (a:Int) (v:Int):Option ((Int×Unit)×(MemV×Unit)) :=
 if a<0 then
 some ((0,()),(m,()))
 else
 if ((m.cells.length:Nat):Int)≤a then
 some ((0,()),(m,()))
 else
 if 0≤a∧a<((m.cells.length:Nat):Int) then
 if 0≤a∧a<((m.cells.length:Nat):Int) then
 if 0≤a∧a<(((m.cells.set a.toNat (ap8 (ahf m.cells a) v)).length:Nat):Int) then
 some ((ahf m.cells a,()),((⟨m.cells.set a.toNat (ap8 (ahf m.cells a) v),⟨5,a,ahf m.cells a,ahf (m.cells.set a.toNat (ap8 (ahf m.cells a) v)) a⟩,wi (m.count+1)⟩:MemV),()))
 else none
 else none
 else none
noncomputable abbrev ax2:Con SR1:=⟨169,[.ref 9,.sh sI_,.sh sU_],[.sh sU_],fun x =>aEN x.1 x.2.1 x.2.2.1⟩
noncomputable def aGo:List (Nat×Func):=[(133,Tryz.f133),(173,Tryz.f173)]
theorem awB:CO Tryz.prog ax2:=ahZ aah Tryz.func169 [] trivial aGo ⟨Tryz.func133,Tryz.func173,trivial⟩ (fun _ =>[]) [] fun x =>by kernel_rfl
noncomputable def aHI (m:MemV) (a:Int) (v:Int):Option ((Int×Unit)×(MemV×Unit)) :=
 if a<0 then
 some ((0,()),(m,()))
 else
 if ((m.cells.length:Nat):Int)≤a then
 some ((0,()),(m,()))
 else
 if 0≤a∧a<((m.cells.length:Nat):Int) then
 if 0≤a∧a<((m.cells.length:Nat):Int) then
 if 0≤a∧a<(((m.cells.set a.toNat (wu ((ahf m.cells a)+v))).length:Nat):Int) then
 some ((ahf m.cells a,()),((⟨m.cells.set a.toNat (wu ((ahf m.cells a)+v)),⟨6,a,ahf m.cells a,ahf (m.cells.set a.toNat (wu ((ahf m.cells a)+v))) a⟩,wi (m.count+1)⟩:MemV),()))
 else none
 else none
 else none
noncomputable abbrev ax3:Con SR1:=⟨182,[.ref 9,.sh sI_,.sh sU_],[.sh sU_],fun x =>aHI x.1 x.2.1 x.2.2.1⟩
noncomputable def aGp:List (Nat×Func):=[(133,Tryz.f133),(184,Tryz.f184)]
theorem awC:CO Tryz.prog ax3:=ahZ aah Tryz.func182 [] trivial aGp ⟨Tryz.func133,Tryz.func184,trivial⟩ (fun _ =>[]) [] fun x =>by kernel_rfl
noncomputable def as8 (k:ClkV):Option ((Int×Unit)×(ClkV×Unit)) :=
 some ((k.now,()),(k,()))
noncomputable abbrev aoX:Con SR1:=⟨129,[.ref 25],[.sh sI_],fun x =>as8 x.1⟩
theorem al6:CO Tryz.prog aoX:=aam aah Tryz.func129 [] trivial
noncomputable def aDn (k:ClkV) (n:Int):Option ((Int×Unit)×(ClkV×Unit)) :=
 if n<1 then
 some ((0,()),(k,()))
 else
 if n≠0 then
 if (Int.tmod k.draw n)<0 then
 some ((wi ((Int.tmod k.draw n)+n),()),(k,()))
 else
 some (((Int.tmod k.draw n),()),(k,()))
 else none
noncomputable abbrev aAw:Con SR1:=⟨251,[.ref 25,.sh sI_],[.sh sI_],fun x =>aDn x.1 x.2.1⟩
theorem aDl:CO Tryz.prog aAw:=aam aah Tryz.func251 [] trivial
noncomputable def aCm (n:Int):Option ((Int×Unit)×(Unit)) :=
 if n<0 then
 some ((0,()),())
 else
 if 63<n then
 some ((0,()),())
 else
 if 0≤wu (n) then
 some ((wu (1*2 ^ min (wu (n):Int).toNat IntKind.u64.bits),()),())
 else none
noncomputable abbrev au1:Con SR1:=⟨166,[.sh sI_],[.sh sU_],fun x =>aCm x.1⟩
theorem ate:CO Tryz.prog au1:=aam aah Tryz.func166 [] trivial
noncomputable def aCl (a:Int) (n:Int):Option ((Int×Unit)×(Unit)) :=
 if n<1 then
 some ((0,()),())
 else
 if n≠0 then
 if (Int.tmod a n)<0 then
 some ((wi ((Int.tmod a n)+n),()),())
 else
 some (((Int.tmod a n),()),())
 else none
noncomputable abbrev auY:Con SR1:=⟨146,[.sh sI_,.sh sI_],[.sh sI_],fun x =>aCl x.1 x.2.1⟩
theorem as9:CO Tryz.prog auY:=aam aah Tryz.func146 [] trivial
noncomputable def awu (b:Int) (t:Int):Option ((Int×Unit)×(Unit)) :=
 some ((wi (wu (b-t)),()),())
noncomputable abbrev aoc:Con SR1:=⟨217,[.sh sU_,.sh sU_],[.sh sI_],fun x =>awu x.1 x.2.1⟩
theorem amX:CO Tryz.prog aoc:=aam aah Tryz.func217 [] trivial
noncomputable def awy (q:QV) (i:Int):Option ((Int×Unit)×(Unit)) :=
 if q.cap<1 then
 some (((-1),()),())
 else
 if (wu (q.cap))≠0 then
 some ((wi (q.ring+(wi ((Int.tmod i (wu (q.cap)))))),()),())
 else none
noncomputable abbrev atc:Con SR1:=⟨218,[.val 14,.sh sU_],[.sh sI_],fun x =>awy x.1 x.2.1⟩
theorem atb:CO Tryz.prog atc:=aam aah Tryz.func218 [] trivial
noncomputable def pAt (i:Int) (n:Int) (a:Int) (w:Int):Option ((Int×Unit)×(Unit)) :=
 if i<0 then
 some (((-1),()),())
 else
 if n≤i then
 some (((-1),()),())
 else
 some ((wi (a+(wi (i*w))),()),())
noncomputable abbrev awz:Con SR1:=⟨91,[.sh sI_,.sh sI_,.sh sI_,.sh sI_],[.sh sI_],fun x =>pAt x.1 x.2.1 x.2.2.1 x.2.2.2.1⟩
theorem asf:CO Tryz.prog awz:=aam aah Tryz.func91 [] trivial
noncomputable def auX (l:LayV) (t:Int) (f:Int):Option ((Int×Unit)×(Unit)) :=
 (pAt t l.tasks (wi (l.table+f)) 5).bind fun r1 =>
 some ((r1.1.1,()),())
noncomputable abbrev aob:Con SR1:=⟨79,[.val 24,.sh sI_,.sh sI_],[.sh sI_],fun x =>auX x.1 x.2.1 x.2.2.1⟩
theorem amV:CO Tryz.prog aob:=aam aah Tryz.func79 [awz] ⟨asf,trivial⟩
noncomputable def aGl (l:LayV):Option ((Int×Unit)×(Unit)) :=
 some ((0,()),())
noncomputable abbrev aAt:Con SR1:=⟨57,[.val 24],[.sh sI_],fun x =>aGl x.1⟩
theorem aDi:CO Tryz.prog aAt:=aam aah Tryz.func57 [] trivial
noncomputable def afh (l:LayV) (t:Int):Option ((Int×Unit)×(Unit)) :=
 (auX l t 0).bind fun r1 =>
 some ((r1.1.1,()),())
noncomputable abbrev ahk:Con SR1:=⟨58,[.val 24,.sh sI_],[.sh sI_],fun x =>afh x.1 x.2.1⟩
theorem agG:CO Tryz.prog ahk:=aam aah Tryz.func58 [aob] ⟨amV,trivial⟩
noncomputable def afR (l:LayV) (t:Int):Option ((Int×Unit)×(Unit)) :=
 (auX l t 1).bind fun r1 =>
 some ((r1.1.1,()),())
noncomputable abbrev ahl:Con SR1:=⟨127,[.val 24,.sh sI_],[.sh sI_],fun x =>afR x.1 x.2.1⟩
theorem agH:CO Tryz.prog ahl:=aam aah Tryz.func127 [aob] ⟨amV,trivial⟩
noncomputable def ajN (l:LayV) (t:Int):Option ((Int×Unit)×(Unit)) :=
 (auX l t 4).bind fun r1 =>
 some ((r1.1.1,()),())
noncomputable abbrev alh:Con SR1:=⟨128,[.val 24,.sh sI_],[.sh sI_],fun x =>ajN x.1 x.2.1⟩
theorem akt:CO Tryz.prog alh:=aam aah Tryz.func128 [aob] ⟨amV,trivial⟩
noncomputable def aks (l:LayV) (t:Int):Option ((Int×Unit)×(Unit)) :=
 (auX l t 3).bind fun r1 =>
 some ((r1.1.1,()),())
noncomputable abbrev apM:Con SR1:=⟨231,[.val 24,.sh sI_],[.sh sI_],fun x =>aks x.1 x.2.1⟩
theorem aqQ:CO Tryz.prog apM:=aam aah Tryz.func231 [aob] ⟨amV,trivial⟩
noncomputable def app (l:LayV) (t:Int):Option ((Int×Unit)×(Unit)) :=
 (auX l t 2).bind fun r1 =>
 some ((r1.1.1,()),())
noncomputable abbrev aww:Con SR1:=⟨236,[.val 24,.sh sI_],[.sh sI_],fun x =>app x.1 x.2.1⟩
theorem axW:CO Tryz.prog aww:=aam aah Tryz.func236 [aob] ⟨amV,trivial⟩
noncomputable def aAv (l:LayV):Option ((Int×Unit)×(Unit)) :=
 some ((1,()),())
noncomputable abbrev awv:Con SR1:=⟨178,[.val 24],[.sh sI_],fun x =>aAv x.1⟩
theorem axV:CO Tryz.prog awv:=aam aah Tryz.func178 [] trivial
noncomputable def ag9 (l:LayV):Option ((Int×Unit)×(Unit)) :=
 some ((2,()),())
noncomputable abbrev alj:Con SR1:=⟨124,[.val 24],[.sh sI_],fun x =>ag9 x.1⟩
theorem akx:CO Tryz.prog alj:=aam aah Tryz.func124 [] trivial
noncomputable def apo (l:LayV) (i:Int):Option ((Int×Unit)×(Unit)) :=
 (pAt i l.heap 4 1).bind fun r1 =>
 some ((r1.1.1,()),())
noncomputable abbrev as7:Con SR1:=⟨189,[.val 24,.sh sI_],[.sh sI_],fun x =>apo x.1 x.2.1⟩
theorem as6:CO Tryz.prog as7:=aam aah Tryz.func189 [awz] ⟨asf,trivial⟩
noncomputable def ase (l:LayV) (w:Int):Option ((Int×Unit)×(Unit)) :=
 (pAt w l.workers l.epochs 1).bind fun r1 =>
 some ((r1.1.1,()),())
noncomputable abbrev apO:Con SR1:=⟨163,[.val 24,.sh sI_],[.sh sI_],fun x =>ase x.1 x.2.1⟩
theorem aqR:CO Tryz.prog apO:=aam aah Tryz.func163 [awz] ⟨asf,trivial⟩
noncomputable def ahM (l:LayV) (l0:Int):Option ((Int×Unit)×(Unit)) :=
 (pAt l0 l.classes l.sleepers 1).bind fun r1 =>
 some ((r1.1.1,()),())
noncomputable abbrev al5:Con SR1:=⟨172,[.val 24,.sh sI_],[.sh sI_],fun x =>ahM x.1 x.2.1⟩
theorem aoW:CO Tryz.prog al5:=aam aah Tryz.func172 [awz] ⟨asf,trivial⟩
noncomputable def aij (l:LayV) (w:Int):Option ((Int×Unit)×(Unit)) :=
 (pAt w l.workers l.bitmaps 1).bind fun r1 =>
 some ((r1.1.1,()),())
noncomputable abbrev ahO:Con SR1:=⟨154,[.val 24,.sh sI_],[.sh sI_],fun x =>aij x.1 x.2.1⟩
theorem aht:CO Tryz.prog ahO:=aam aah Tryz.func154 [awz] ⟨asf,trivial⟩
noncomputable def ahN (l:LayV) (w:Int) (v:Int):Option ((QV×Unit)×(Unit)) :=
 (pAt w l.workers l.queues (wi (l.levels*(wi (2+l.deque))))).bind fun r1 =>
 (pAt v l.levels r1.1.1 (wi (2+l.deque))).bind fun r2 =>
 if r1.1.1<0 then
 some (((⟨(-1),(-1),(-1),0⟩:QV),()),())
 else
 if r2.1.1<0 then
 some (((⟨(-1),(-1),(-1),0⟩:QV),()),())
 else
 some (((⟨r2.1.1,wi (r2.1.1+1),wi (r2.1.1+2),l.deque⟩:QV),()),())
noncomputable abbrev ali:Con SR1:=⟨152,[.val 24,.sh sI_,.sh sI_],[.val 14],fun x =>ahN x.1 x.2.1 x.2.2.1⟩
theorem akv:CO Tryz.prog ali:=aam aah Tryz.func152 [awz] ⟨asf,trivial⟩
noncomputable def atf (l:LayV):Option ((Int×Unit)×(Unit)) :=
 some ((3,()),())
noncomputable abbrev ash:Con SR1:=⟨112,[.val 24],[.sh sI_],fun x =>atf x.1⟩
theorem awA:CO Tryz.prog ash:=aam aah Tryz.func112 [] trivial
noncomputable def ax1 (l:LayV):Option ((Int×Unit)×(Unit)) :=
 some ((wi (l.table+(wi (5*l.tasks))),()),())
noncomputable abbrev ax0:Con SR1:=⟨82,[.val 24],[.sh sI_],fun x =>ax1 x.1⟩
theorem aAy:CO Tryz.prog ax0:=aam aah Tryz.func82 [] trivial
noncomputable def aeJ (e:EnvP) (v:Ev):Option ((Unit)×(EnvP×Unit)) :=
 if (((e.evs.length+([v]:List Ev).length:Nat)):Int)<1000000000000 then
 some ((()),(({ e with evs:=e.evs++([v]) }:EnvP),()))
 else none
noncomputable abbrev aga:Con SR1:=⟨131,[.ref 27,.val 2],[],fun x =>aeJ x.1 x.2.1⟩
theorem ae2:CO Tryz.prog aga:=aam aah Tryz.func131 [] trivial
noncomputable def aDg (d:Int) (a:Int) (t:Int):Option ((Int×Bool×Unit)×(Unit)) :=
 if d<0 then
 some ((0,false,()),())
 else
 if 16777215<d then
 some ((0,false,()),())
 else
 if a<0 then
 some ((0,false,()),())
 else
 if 16777215<a then
 some ((0,false,()),())
 else
 if t<0 then
 some ((0,false,()),())
 else
 if 65535<t then
 some ((0,false,()),())
 else
 some ((orU (orU (wu ((wu (d))*2 ^ min (40:Int).toNat IntKind.u64.bits)) (wu ((wu (a))*2 ^ min (16:Int).toNat IntKind.u64.bits))) (wu (t)),true,()),())
noncomputable abbrev aAr:Con SR1:=⟨187,[.sh sI_,.sh sI_,.sh sI_],[.sh sU_,.sh .b],fun x =>aDg x.1 x.2.1 x.2.2.1⟩
theorem aDe:CO Tryz.prog aAr:=aam aah Tryz.func187 [] trivial
noncomputable def au0 (l:Int) (n:Int) (c:Int):Option ((Int×Unit)×(Unit)) :=
 if n<1 then
 some ((0,()),())
 else
 if 64<n then
 some ((0,()),())
 else
 if c<1 then
 some ((0,()),())
 else
 if 8<c then
 some ((0,()),())
 else
 if l<0 then
 some ((0,()),())
 else
 if n≤l then
 some ((0,()),())
 else
 if n≠0 then
 some ((wi (Int.tdiv (wi (l*c)) n),()),())
 else none
noncomputable abbrev axZ:Con SR1:=⟨196,[.sh sI_,.sh sI_,.sh sI_],[.sh sI_],fun x =>au0 x.1 x.2.1 x.2.2.1⟩
theorem aAx:CO Tryz.prog axZ:=aam aah Tryz.func196 [] trivial
noncomputable def awt (k:Int):Option ((Int×Int×Int×Unit)×(Unit)) :=
 some ((wi (Int.fdiv k (2 ^ min (40:Int).toNat IntKind.u64.bits)),wi (ap8 (Int.fdiv k (2 ^ min (16:Int).toNat IntKind.u64.bits)) 16777215),wi (ap8 k 65535),()),())
noncomputable abbrev auW:Con SR1:=⟨264,[.sh sU_],[.sh sI_,.sh sI_,.sh sI_],fun x =>awt x.1⟩
theorem ayY:CO Tryz.prog auW:=aam aah Tryz.func264 [] trivial
noncomputable def ahY (x:Int):Option ((Int×Unit)×(Unit)) :=
 if 4294967296≤x then
 if 65536≤(Int.fdiv x (2 ^ min (32:Int).toNat IntKind.u64.bits)) then
 if 256≤(Int.fdiv (Int.fdiv x (2 ^ min (32:Int).toNat IntKind.u64.bits)) (2 ^ min (16:Int).toNat IntKind.u64.bits)) then
 if 0≤IntKind.u8.wrap (Int.fdiv (Int.fdiv (Int.fdiv x (2 ^ min (32:Int).toNat IntKind.u64.bits)) (2 ^ min (16:Int).toNat IntKind.u64.bits)) (2 ^ min (8:Int).toNat IntKind.u64.bits))∧IntKind.u8.wrap (Int.fdiv (Int.fdiv (Int.fdiv x (2 ^ min (32:Int).toNat IntKind.u64.bits)) (2 ^ min (16:Int).toNat IntKind.u64.bits)) (2 ^ min (8:Int).toNat IntKind.u64.bits))<((ake.size:Nat):Int) then
 some ((wi ((wi (56+(wi ((((ake[(IntKind.u8.wrap (Int.fdiv (Int.fdiv (Int.fdiv x (2 ^ min (32:Int).toNat IntKind.u64.bits)) (2 ^ min (16:Int).toNat IntKind.u64.bits)) (2 ^ min (8:Int).toNat IntKind.u64.bits))).toNat]?).map fun b =>((b.toNat:Nat):Int)).getD 0)))))-1),()),())
 else none
 else
 if 0≤IntKind.u8.wrap (Int.fdiv (Int.fdiv x (2 ^ min (32:Int).toNat IntKind.u64.bits)) (2 ^ min (16:Int).toNat IntKind.u64.bits))∧IntKind.u8.wrap (Int.fdiv (Int.fdiv x (2 ^ min (32:Int).toNat IntKind.u64.bits)) (2 ^ min (16:Int).toNat IntKind.u64.bits))<((ake.size:Nat):Int) then
 some ((wi ((wi (48+(wi ((((ake[(IntKind.u8.wrap (Int.fdiv (Int.fdiv x (2 ^ min (32:Int).toNat IntKind.u64.bits)) (2 ^ min (16:Int).toNat IntKind.u64.bits))).toNat]?).map fun b =>((b.toNat:Nat):Int)).getD 0)))))-1),()),())
 else none
 else
 if 256≤(Int.fdiv x (2 ^ min (32:Int).toNat IntKind.u64.bits)) then
 if 0≤IntKind.u8.wrap (Int.fdiv (Int.fdiv x (2 ^ min (32:Int).toNat IntKind.u64.bits)) (2 ^ min (8:Int).toNat IntKind.u64.bits))∧IntKind.u8.wrap (Int.fdiv (Int.fdiv x (2 ^ min (32:Int).toNat IntKind.u64.bits)) (2 ^ min (8:Int).toNat IntKind.u64.bits))<((ake.size:Nat):Int) then
 some ((wi ((wi (40+(wi ((((ake[(IntKind.u8.wrap (Int.fdiv (Int.fdiv x (2 ^ min (32:Int).toNat IntKind.u64.bits)) (2 ^ min (8:Int).toNat IntKind.u64.bits))).toNat]?).map fun b =>((b.toNat:Nat):Int)).getD 0)))))-1),()),())
 else none
 else
 if 0≤IntKind.u8.wrap (Int.fdiv x (2 ^ min (32:Int).toNat IntKind.u64.bits))∧IntKind.u8.wrap (Int.fdiv x (2 ^ min (32:Int).toNat IntKind.u64.bits))<((ake.size:Nat):Int) then
 some ((wi ((wi (32+(wi ((((ake[(IntKind.u8.wrap (Int.fdiv x (2 ^ min (32:Int).toNat IntKind.u64.bits))).toNat]?).map fun b =>((b.toNat:Nat):Int)).getD 0)))))-1),()),())
 else none
 else
 if 65536≤x then
 if 256≤(Int.fdiv x (2 ^ min (16:Int).toNat IntKind.u64.bits)) then
 if 0≤IntKind.u8.wrap (Int.fdiv (Int.fdiv x (2 ^ min (16:Int).toNat IntKind.u64.bits)) (2 ^ min (8:Int).toNat IntKind.u64.bits))∧IntKind.u8.wrap (Int.fdiv (Int.fdiv x (2 ^ min (16:Int).toNat IntKind.u64.bits)) (2 ^ min (8:Int).toNat IntKind.u64.bits))<((ake.size:Nat):Int) then
 some ((wi ((wi (24+(wi ((((ake[(IntKind.u8.wrap (Int.fdiv (Int.fdiv x (2 ^ min (16:Int).toNat IntKind.u64.bits)) (2 ^ min (8:Int).toNat IntKind.u64.bits))).toNat]?).map fun b =>((b.toNat:Nat):Int)).getD 0)))))-1),()),())
 else none
 else
 if 0≤IntKind.u8.wrap (Int.fdiv x (2 ^ min (16:Int).toNat IntKind.u64.bits))∧IntKind.u8.wrap (Int.fdiv x (2 ^ min (16:Int).toNat IntKind.u64.bits))<((ake.size:Nat):Int) then
 some ((wi ((wi (16+(wi ((((ake[(IntKind.u8.wrap (Int.fdiv x (2 ^ min (16:Int).toNat IntKind.u64.bits))).toNat]?).map fun b =>((b.toNat:Nat):Int)).getD 0)))))-1),()),())
 else none
 else
 if 256≤x then
 if 0≤IntKind.u8.wrap (Int.fdiv x (2 ^ min (8:Int).toNat IntKind.u64.bits))∧IntKind.u8.wrap (Int.fdiv x (2 ^ min (8:Int).toNat IntKind.u64.bits))<((ake.size:Nat):Int) then
 some ((wi ((wi (8+(wi ((((ake[(IntKind.u8.wrap (Int.fdiv x (2 ^ min (8:Int).toNat IntKind.u64.bits))).toNat]?).map fun b =>((b.toNat:Nat):Int)).getD 0)))))-1),()),())
 else none
 else
 if 0≤IntKind.u8.wrap (x)∧IntKind.u8.wrap (x)<((ake.size:Nat):Int) then
 some ((wi ((wi (0+(wi ((((ake[(IntKind.u8.wrap (x)).toNat]?).map fun b =>((b.toNat:Nat):Int)).getD 0)))))-1),()),())
 else none
noncomputable abbrev awx:Con SR1:=⟨244,[.sh sU_],[.sh sI_],fun x =>ahY x.1⟩
noncomputable def aDk:List (Nat×Func):=[(246,Tryz.f246)]
theorem axX:CO Tryz.prog awx:=ahZ aah Tryz.func244 [] trivial aDk ⟨Tryz.func246,trivial⟩ (fun _ =>[]) [] fun x =>by kernel_rfl
noncomputable def aeS (y0:ProbeV) (y1:Int):Option ((Bool×Unit)×(ProbeV×Unit)) :=
 ((
 if y0.next<y1 then
 if y1≠0 then
 some (decide ((Int.tmod (wi (y0.start+y0.next)) y1)=y0.worker),())
 else none
 else
 some (false,())
 ):Option (Bool×Unit)).bind fun z1 =>
 if z1.1=true then
 some ((decide (y1≤(wi (y0.next+1))),()),(({ y0 with next:=wi (y0.next+1) }:ProbeV),()))
 else
 some ((decide (y1≤y0.next),()),(y0,()))
noncomputable abbrev ajL:Con SR1:=⟨252,[.ref 46,.sh sI_],[.sh .b],fun x =>aeS x.1 x.2.1⟩
theorem an7:CO Tryz.prog ajL:=aam aah Tryz.func252 [] trivial [(2,.cut [.rg 28 .b] [0])]
noncomputable def abp (y0:ProbeV) (y1:EnvP):Option ((Bool×Unit)×(ProbeV×EnvP×Unit)) :=
 (aaw y0.o).bind fun r1 =>
 if r1.1.1=true then
 some ((true,()),(({ y0 with o:=r1.2.1 }:ProbeV),y1,()))
 else
 ((
 if (!y0.begun)=true then
 (aDn y1.k (if 16<y1.c.workers then 16 else y1.c.workers)).bind fun r2 =>
 some (({ y0 with o:=r1.2.1,begun:=true,start:=r2.1.1 }:ProbeV),({ y1 with k:=r2.2.1 }:EnvP),())
 else
 some (({ y0 with o:=r1.2.1 }:ProbeV),y1,())
 ):Option (ProbeV×EnvP×Unit)).bind fun z3 =>
 (aeS z3.1 (if 16<y1.c.workers then 16 else y1.c.workers)).bind fun r4 =>
 if r4.1.1=true then
 (abi r4.2.1.o 2 0).bind fun r5 =>
 some ((r5.1.1,()),(({ r4.2.1 with o:=r5.2.1 }:ProbeV),z3.2.1,()))
 else
 if (if 16<y1.c.workers then 16 else y1.c.workers)≠0 then
 ((
 (aij z3.2.1.l (Int.tmod (wi (r4.2.1.start+r4.2.1.next)) (if 16<y1.c.workers then 16 else y1.c.workers))).bind fun r6 =>
 (acJ z3.2.1.m r6.1.1).bind fun r7 =>
 if (Int.tmod (wi (r4.2.1.start+r4.2.1.next)) (if 16<y1.c.workers then 16 else y1.c.workers))=((15:Nat):Int) then
 some (({ r4.2.1 with bm:={ r4.2.1.bm with b15:=r7.1.1 } }:ProbeV),({ z3.2.1 with m:=r7.2.1 }:EnvP),())
 else
 if (Int.tmod (wi (r4.2.1.start+r4.2.1.next)) (if 16<y1.c.workers then 16 else y1.c.workers))=((14:Nat):Int) then
 some (({ r4.2.1 with bm:={ r4.2.1.bm with b14:=r7.1.1 } }:ProbeV),({ z3.2.1 with m:=r7.2.1 }:EnvP),())
 else
 if (Int.tmod (wi (r4.2.1.start+r4.2.1.next)) (if 16<y1.c.workers then 16 else y1.c.workers))=((13:Nat):Int) then
 some (({ r4.2.1 with bm:={ r4.2.1.bm with b13:=r7.1.1 } }:ProbeV),({ z3.2.1 with m:=r7.2.1 }:EnvP),())
 else
 if (Int.tmod (wi (r4.2.1.start+r4.2.1.next)) (if 16<y1.c.workers then 16 else y1.c.workers))=((12:Nat):Int) then
 some (({ r4.2.1 with bm:={ r4.2.1.bm with b12:=r7.1.1 } }:ProbeV),({ z3.2.1 with m:=r7.2.1 }:EnvP),())
 else
 if (Int.tmod (wi (r4.2.1.start+r4.2.1.next)) (if 16<y1.c.workers then 16 else y1.c.workers))=((11:Nat):Int) then
 some (({ r4.2.1 with bm:={ r4.2.1.bm with b11:=r7.1.1 } }:ProbeV),({ z3.2.1 with m:=r7.2.1 }:EnvP),())
 else
 if (Int.tmod (wi (r4.2.1.start+r4.2.1.next)) (if 16<y1.c.workers then 16 else y1.c.workers))=((10:Nat):Int) then
 some (({ r4.2.1 with bm:={ r4.2.1.bm with b10:=r7.1.1 } }:ProbeV),({ z3.2.1 with m:=r7.2.1 }:EnvP),())
 else
 if (Int.tmod (wi (r4.2.1.start+r4.2.1.next)) (if 16<y1.c.workers then 16 else y1.c.workers))=((9:Nat):Int) then
 some (({ r4.2.1 with bm:={ r4.2.1.bm with b9:=r7.1.1 } }:ProbeV),({ z3.2.1 with m:=r7.2.1 }:EnvP),())
 else
 if (Int.tmod (wi (r4.2.1.start+r4.2.1.next)) (if 16<y1.c.workers then 16 else y1.c.workers))=((8:Nat):Int) then
 some (({ r4.2.1 with bm:={ r4.2.1.bm with b8:=r7.1.1 } }:ProbeV),({ z3.2.1 with m:=r7.2.1 }:EnvP),())
 else
 if (Int.tmod (wi (r4.2.1.start+r4.2.1.next)) (if 16<y1.c.workers then 16 else y1.c.workers))=((7:Nat):Int) then
 some (({ r4.2.1 with bm:={ r4.2.1.bm with b7:=r7.1.1 } }:ProbeV),({ z3.2.1 with m:=r7.2.1 }:EnvP),())
 else
 if (Int.tmod (wi (r4.2.1.start+r4.2.1.next)) (if 16<y1.c.workers then 16 else y1.c.workers))=((6:Nat):Int) then
 some (({ r4.2.1 with bm:={ r4.2.1.bm with b6:=r7.1.1 } }:ProbeV),({ z3.2.1 with m:=r7.2.1 }:EnvP),())
 else
 if (Int.tmod (wi (r4.2.1.start+r4.2.1.next)) (if 16<y1.c.workers then 16 else y1.c.workers))=((5:Nat):Int) then
 some (({ r4.2.1 with bm:={ r4.2.1.bm with b5:=r7.1.1 } }:ProbeV),({ z3.2.1 with m:=r7.2.1 }:EnvP),())
 else
 if (Int.tmod (wi (r4.2.1.start+r4.2.1.next)) (if 16<y1.c.workers then 16 else y1.c.workers))=((4:Nat):Int) then
 some (({ r4.2.1 with bm:={ r4.2.1.bm with b4:=r7.1.1 } }:ProbeV),({ z3.2.1 with m:=r7.2.1 }:EnvP),())
 else
 if (Int.tmod (wi (r4.2.1.start+r4.2.1.next)) (if 16<y1.c.workers then 16 else y1.c.workers))=((3:Nat):Int) then
 some (({ r4.2.1 with bm:={ r4.2.1.bm with b3:=r7.1.1 } }:ProbeV),({ z3.2.1 with m:=r7.2.1 }:EnvP),())
 else
 if (Int.tmod (wi (r4.2.1.start+r4.2.1.next)) (if 16<y1.c.workers then 16 else y1.c.workers))=((2:Nat):Int) then
 some (({ r4.2.1 with bm:={ r4.2.1.bm with b2:=r7.1.1 } }:ProbeV),({ z3.2.1 with m:=r7.2.1 }:EnvP),())
 else
 if (Int.tmod (wi (r4.2.1.start+r4.2.1.next)) (if 16<y1.c.workers then 16 else y1.c.workers))=((1:Nat):Int) then
 some (({ r4.2.1 with bm:={ r4.2.1.bm with b1:=r7.1.1 } }:ProbeV),({ z3.2.1 with m:=r7.2.1 }:EnvP),())
 else
 if (Int.tmod (wi (r4.2.1.start+r4.2.1.next)) (if 16<y1.c.workers then 16 else y1.c.workers))=((0:Nat):Int) then
 some (({ r4.2.1 with bm:={ r4.2.1.bm with b0:=r7.1.1 } }:ProbeV),({ z3.2.1 with m:=r7.2.1 }:EnvP),())
 else
 none
 ):Option (ProbeV×EnvP×Unit)).bind fun z8 =>
 (aeS ({ z8.1 with next:=wi (z8.1.next+1) }:ProbeV) (if 16<y1.c.workers then 16 else y1.c.workers)).bind fun r9 =>
 if (!r9.1.1)=true then
 some ((false,()),(r9.2.1,z8.2.1,()))
 else
 if 0≤(if 16<y1.c.workers then 16 else y1.c.workers)∧(if 16<y1.c.workers then 16 else y1.c.workers)≤((16:Nat):Int) then
 (lpF (σ:=Int×Int×Int×ProbeV×Unit) (β:=Int×Int×Int×ProbeV×Unit) (fun self12 x10 =>
 if x10.2.2.1<((((if 16<y1.c.workers then 16 else y1.c.workers)).toNat:Nat):Int) then
 (aCl r9.2.1.start ((((if 16<y1.c.workers then 16 else y1.c.workers)).toNat:Nat):Int)).bind fun r13 =>
 if ((((if 16<y1.c.workers then 16 else y1.c.workers)).toNat:Nat):Int)≠0 then
 ((
 if (Int.tmod (wi (r13.1.1+x10.2.2.1)) ((((if 16<y1.c.workers then 16 else y1.c.workers)).toNat:Nat):Int))<(if 16<y1.c.workers then 16 else y1.c.workers) then
 if (Int.tmod (wi (r13.1.1+x10.2.2.1)) ((((if 16<y1.c.workers then 16 else y1.c.workers)).toNat:Nat):Int))=((15:Nat):Int) then
 (ahY x10.2.2.2.1.bm.b15).bind fun r14 =>
 some (r14.1.1,x10.2.2.2.1,())
 else
 if (Int.tmod (wi (r13.1.1+x10.2.2.1)) ((((if 16<y1.c.workers then 16 else y1.c.workers)).toNat:Nat):Int))=((14:Nat):Int) then
 (ahY x10.2.2.2.1.bm.b14).bind fun r15 =>
 some (r15.1.1,x10.2.2.2.1,())
 else
 if (Int.tmod (wi (r13.1.1+x10.2.2.1)) ((((if 16<y1.c.workers then 16 else y1.c.workers)).toNat:Nat):Int))=((13:Nat):Int) then
 (ahY x10.2.2.2.1.bm.b13).bind fun r16 =>
 some (r16.1.1,x10.2.2.2.1,())
 else
 if (Int.tmod (wi (r13.1.1+x10.2.2.1)) ((((if 16<y1.c.workers then 16 else y1.c.workers)).toNat:Nat):Int))=((12:Nat):Int) then
 (ahY x10.2.2.2.1.bm.b12).bind fun r17 =>
 some (r17.1.1,x10.2.2.2.1,())
 else
 if (Int.tmod (wi (r13.1.1+x10.2.2.1)) ((((if 16<y1.c.workers then 16 else y1.c.workers)).toNat:Nat):Int))=((11:Nat):Int) then
 (ahY x10.2.2.2.1.bm.b11).bind fun r18 =>
 some (r18.1.1,x10.2.2.2.1,())
 else
 if (Int.tmod (wi (r13.1.1+x10.2.2.1)) ((((if 16<y1.c.workers then 16 else y1.c.workers)).toNat:Nat):Int))=((10:Nat):Int) then
 (ahY x10.2.2.2.1.bm.b10).bind fun r19 =>
 some (r19.1.1,x10.2.2.2.1,())
 else
 if (Int.tmod (wi (r13.1.1+x10.2.2.1)) ((((if 16<y1.c.workers then 16 else y1.c.workers)).toNat:Nat):Int))=((9:Nat):Int) then
 (ahY x10.2.2.2.1.bm.b9).bind fun r20 =>
 some (r20.1.1,x10.2.2.2.1,())
 else
 if (Int.tmod (wi (r13.1.1+x10.2.2.1)) ((((if 16<y1.c.workers then 16 else y1.c.workers)).toNat:Nat):Int))=((8:Nat):Int) then
 (ahY x10.2.2.2.1.bm.b8).bind fun r21 =>
 some (r21.1.1,x10.2.2.2.1,())
 else
 if (Int.tmod (wi (r13.1.1+x10.2.2.1)) ((((if 16<y1.c.workers then 16 else y1.c.workers)).toNat:Nat):Int))=((7:Nat):Int) then
 (ahY x10.2.2.2.1.bm.b7).bind fun r22 =>
 some (r22.1.1,x10.2.2.2.1,())
 else
 if (Int.tmod (wi (r13.1.1+x10.2.2.1)) ((((if 16<y1.c.workers then 16 else y1.c.workers)).toNat:Nat):Int))=((6:Nat):Int) then
 (ahY x10.2.2.2.1.bm.b6).bind fun r23 =>
 some (r23.1.1,x10.2.2.2.1,())
 else
 if (Int.tmod (wi (r13.1.1+x10.2.2.1)) ((((if 16<y1.c.workers then 16 else y1.c.workers)).toNat:Nat):Int))=((5:Nat):Int) then
 (ahY x10.2.2.2.1.bm.b5).bind fun r24 =>
 some (r24.1.1,x10.2.2.2.1,())
 else
 if (Int.tmod (wi (r13.1.1+x10.2.2.1)) ((((if 16<y1.c.workers then 16 else y1.c.workers)).toNat:Nat):Int))=((4:Nat):Int) then
 (ahY x10.2.2.2.1.bm.b4).bind fun r25 =>
 some (r25.1.1,x10.2.2.2.1,())
 else
 if (Int.tmod (wi (r13.1.1+x10.2.2.1)) ((((if 16<y1.c.workers then 16 else y1.c.workers)).toNat:Nat):Int))=((3:Nat):Int) then
 (ahY x10.2.2.2.1.bm.b3).bind fun r26 =>
 some (r26.1.1,x10.2.2.2.1,())
 else
 if (Int.tmod (wi (r13.1.1+x10.2.2.1)) ((((if 16<y1.c.workers then 16 else y1.c.workers)).toNat:Nat):Int))=((2:Nat):Int) then
 (ahY x10.2.2.2.1.bm.b2).bind fun r27 =>
 some (r27.1.1,x10.2.2.2.1,())
 else
 if (Int.tmod (wi (r13.1.1+x10.2.2.1)) ((((if 16<y1.c.workers then 16 else y1.c.workers)).toNat:Nat):Int))=((1:Nat):Int) then
 (ahY x10.2.2.2.1.bm.b1).bind fun r28 =>
 some (r28.1.1,x10.2.2.2.1,())
 else
 if (Int.tmod (wi (r13.1.1+x10.2.2.1)) ((((if 16<y1.c.workers then 16 else y1.c.workers)).toNat:Nat):Int))=((0:Nat):Int) then
 (ahY x10.2.2.2.1.bm.b0).bind fun r29 =>
 some (r29.1.1,x10.2.2.2.1,())
 else
 none
 else none
 ):Option (Int×ProbeV×Unit)).bind fun z30 =>
 if (Int.tmod (wi (r13.1.1+x10.2.2.1)) ((((if 16<y1.c.workers then 16 else y1.c.workers)).toNat:Nat):Int))≠r9.2.1.worker then
 if x10.2.1<z30.1 then
 self12 ((Int.tmod (wi (r13.1.1+x10.2.2.1)) ((((if 16<y1.c.workers then 16 else y1.c.workers)).toNat:Nat):Int)),z30.1,wi (x10.2.2.1+1),z30.2.1,())
 else
 self12 (x10.1,x10.2.1,wi (x10.2.2.1+1),z30.2.1,())
 else
 self12 (x10.1,x10.2.1,wi (x10.2.2.1+1),z30.2.1,())
 else none
 else
 some (x10.1,x10.2.1,x10.2.2.1,x10.2.2.2.1,())
 ) 18446744073709551616 ((-1),(-1),0,r9.2.1,())).bind fun z11 =>
 if z11.1<0 then
 (abi z11.2.2.2.1.o 2 0).bind fun r31 =>
 some ((r31.1.1,()),(({ z11.2.2.2.1 with o:=r31.2.1 }:ProbeV),z8.2.1,()))
 else
 (abi z11.2.2.2.1.o 1 (wi ((wi (z11.1*64))+z11.2.1))).bind fun r32 =>
 some ((r32.1.1,()),(({ z11.2.2.2.1 with o:=r32.2.1 }:ProbeV),z8.2.1,()))
 else none
 else none
noncomputable abbrev apj:Con SR1:=⟨250,[.ref 46,.ref 27],[.sh .b],fun x =>abp x.1 x.2.1⟩
noncomputable def an5:List (Nat×Func):=[(253,Tryz.f253)]
theorem an6:CO Tryz.prog apj:=ahZ aah Tryz.func250 [abu,aAw,ajL,acM,ahO,acL,auY,awx] ⟨aa9,aDl,an7,abI,aht,abW,as9,axX,trivial⟩ an5 ⟨Tryz.func253,trivial⟩ (fun f =>(get [(253,[(4,.loop [.rg 6 sI_,.rg 7 sI_,.rg 15 sI_,.ob 0 46] 18446744073709551616 0),(8,.cut [.rg 11 sI_,.ob 0 46] [])])] f).getD []) [(6,.cut [.ob 0 46,.ob 1 27] []),(10,.cut [.ob 0 46,.ob 1 27] [])] fun x =>by kernel_rfl
noncomputable def af5 (y0:EnvP) (y1:Int):Option ((Bool×Unit)×(EnvP×Unit)) :=
 if 0≤y1 then
 some ((decide (y1<y0.c.tasks),()),(y0,()))
 else
 some ((false,()),(y0,()))
noncomputable abbrev ahg:Con SR1:=⟨183,[.ref 27,.sh sI_],[.sh .b],fun x =>af5 x.1 x.2.1⟩
theorem aih:CO Tryz.prog ahg:=aam aah Tryz.func183 [] trivial
noncomputable def ab4 (y0:AllocV) (y1:EnvP):Option ((Bool×Unit)×(AllocV×EnvP×Unit)) :=
 (aaw y0.o).bind fun r1 =>
 if r1.1.1=true then
 some ((true,()),((⟨r1.2.1⟩:AllocV),y1,()))
 else
 (aGl y1.l).bind fun r2 =>
 (aHI y1.m r2.1.1 1).bind fun r3 =>
 (af5 ({ y1 with m:=r3.2.1 }:EnvP) (wi (r3.1.1))).bind fun r4 =>
 if (!r4.1.1)=true then
 (abi r1.2.1 3 0).bind fun r5 =>
 some ((r5.1.1,()),((⟨r5.2.1⟩:AllocV),r4.2.1,()))
 else
 (abi r1.2.1 1 (wi (r3.1.1))).bind fun r6 =>
 some ((r6.1.1,()),((⟨r6.2.1⟩:AllocV),r4.2.1,()))
noncomputable abbrev al0:Con SR1:=⟨181,[.ref 35,.ref 27],[.sh .b],fun x =>ab4 x.1 x.2.1⟩
theorem alB:CO Tryz.prog al0:=aam aah Tryz.func181 [abu,aAt,ax3,ahg,acM] ⟨aa9,aDi,awC,aih,abI,trivial⟩
noncomputable def abS (y0:PublishV) (y1:EnvP):Option ((Bool×Unit)×(PublishV×EnvP×Unit)) :=
 (aaw y0.o).bind fun r1 =>
 if r1.1.1=true then
 some ((true,()),(({ y0 with o:=r1.2.1 }:PublishV),y1,()))
 else
 (af5 y1 y0.task).bind fun r2 =>
 if (!r2.1.1)=true then
 (abi r1.2.1 4 0).bind fun r3 =>
 some ((r3.1.1,()),(({ y0 with o:=r3.2.1 }:PublishV),r2.2.1,()))
 else
 if y0.line=1 then
 (afR r2.2.1.l y0.task).bind fun r4 =>
 if y0.level=y0.level then
 (aa5 r2.2.1.m r4.1.1 (wu (y0.level))).bind fun r5 =>
 some ((false,()),(({ y0 with o:=r1.2.1,line:=wi (y0.line+1) }:PublishV),({ r2.2.1 with m:=r5.2.1 }:EnvP),()))
 else none
 else
 if y0.line=2 then
 (ajN r2.2.1.l y0.task).bind fun r6 =>
 (as8 r2.2.1.k).bind fun r7 =>
 (aa5 r2.2.1.m r6.1.1 (wu (r7.1.1))).bind fun r8 =>
 some ((false,()),(({ y0 with o:=r1.2.1,line:=wi (y0.line+1) }:PublishV),({ r2.2.1 with m:=r8.2.1,k:=r7.2.1 }:EnvP),()))
 else
 (afh r2.2.1.l y0.task).bind fun r9 =>
 (aa5 r2.2.1.m r9.1.1 1).bind fun r10 =>
 (abi r1.2.1 0 0).bind fun r11 =>
 some ((r11.1.1,()),(({ y0 with o:=r11.2.1 }:PublishV),({ r2.2.1 with m:=r10.2.1 }:EnvP),()))
noncomputable abbrev amv:Con SR1:=⟨274,[.ref 50,.ref 27],[.sh .b],fun x =>abS x.1 x.2.1⟩
theorem alZ:CO Tryz.prog amv:=aam aah Tryz.func274 [abu,ahg,acM,ahl,aeh,alh,aoX,ahk] ⟨aa9,aih,abI,agH,adC,akt,al6,agG,trivial⟩
noncomputable def adk (y0:ClaimV) (y1:EnvP):Option ((Bool×Unit)×(ClaimV×EnvP×Unit)) :=
 (aaw y0.o).bind fun r1 =>
 if r1.1.1=true then
 some ((true,()),(({ y0 with o:=r1.2.1 }:ClaimV),y1,()))
 else
 if y0.task=y0.task then
 if y0.worker=y0.worker then
 (afh y1.l y0.task).bind fun r2 =>
 (auj y1.m r2.1.1 1 2).bind fun r3 =>
 if (!r3.1.1)=true then
 (aeJ ({ y1 with m:=r3.2.1 }:EnvP) ({ y0 with kind:=15,other:=0,level:=0 }:Ev)).bind fun r4 =>
 (abi r1.2.1 4 0).bind fun r5 =>
 some ((r5.1.1,()),(({ y0 with o:=r5.2.1 }:ClaimV),r4.2.1,()))
 else
 if 0≤y0.task∧y0.task<((y1.recs.length:Nat):Int) then
 if (aab y1.recs y0.task).started=true then
 (aeJ ({ y1 with m:=r3.2.1 }:EnvP) ({ y0 with kind:=9,other:=0,level:=0 }:Ev)).bind fun r6 =>
 (abi r1.2.1 1 y0.task).bind fun r7 =>
 some ((r7.1.1,()),(({ y0 with o:=r7.2.1 }:ClaimV),r6.2.1,()))
 else
 (aeJ ({ y1 with m:=r3.2.1,recs:=y1.recs.set y0.task.toNat ({ aab y1.recs y0.task with started:=true }:RecP) }:EnvP) ({ y0 with kind:=5,other:=0,level:=0 }:Ev)).bind fun r8 =>
 (abi r1.2.1 1 y0.task).bind fun r9 =>
 some ((r9.1.1,()),(({ y0 with o:=r9.2.1 }:ClaimV),r8.2.1,()))
 else none
 else none
 else none
noncomputable abbrev apc:Con SR1:=⟨248,[.ref 45,.ref 27],[.sh .b],fun x =>adk x.1 x.2.1⟩
theorem anR:CO Tryz.prog apc:=aam aah Tryz.func248 [abu,ahk,amZ,aga,acM] ⟨aa9,agG,aky,ae2,abI,trivial⟩
noncomputable def acQ (y0:AttemptV) (y1:EnvP):Option ((Bool×Unit)×(AttemptV×EnvP×Unit)) :=
 (aaw y0.o).bind fun r1 =>
 if r1.1.1=true then
 some ((true,()),(({ y0 with o:=r1.2.1 }:AttemptV),y1,()))
 else
 (aAv y1.l).bind fun r2 =>
 if y0.owner=y0.owner then
 (auj y1.m r2.1.1 0 (wu (wi (y0.owner+1)))).bind fun r3 =>
 if r3.1.1=true then
 (abi r1.2.1 1 0).bind fun r4 =>
 some ((r4.1.1,()),(({ y0 with o:=r4.2.1 }:AttemptV),({ y1 with m:=r3.2.1 }:EnvP),()))
 else
 if y0.once=true then
 (abi r1.2.1 5 0).bind fun r5 =>
 some ((r5.1.1,()),(({ y0 with o:=r5.2.1 }:AttemptV),({ y1 with m:=r3.2.1 }:EnvP),()))
 else
 some ((false,()),(({ y0 with o:=r1.2.1 }:AttemptV),({ y1 with m:=r3.2.1 }:EnvP),()))
 else none
noncomputable abbrev aok:Con SR1:=⟨176,[.ref 34,.ref 27],[.sh .b],fun x =>acQ x.1 x.2.1⟩
theorem ana:CO Tryz.prog aok:=aam aah Tryz.func176 [abu,awv,amZ,acM] ⟨aa9,axV,aky,abI,trivial⟩
noncomputable def acP (y0:ReleaseV) (y1:EnvP):Option ((Bool×Unit)×(ReleaseV×EnvP×Unit)) :=
 (aaw y0.o).bind fun r1 =>
 if r1.1.1=true then
 some ((true,()),((⟨r1.2.1⟩:ReleaseV),y1,()))
 else
 (aAv y1.l).bind fun r2 =>
 (aa5 y1.m r2.1.1 0).bind fun r3 =>
 (abi r1.2.1 0 0).bind fun r4 =>
 some ((r4.1.1,()),((⟨r4.2.1⟩:ReleaseV),({ y1 with m:=r3.2.1 }:EnvP),()))
noncomputable abbrev aoj:Con SR1:=⟨191,[.ref 37,.ref 27],[.sh .b],fun x =>acP x.1 x.2.1⟩
theorem am9:CO Tryz.prog aoj:=aam aah Tryz.func191 [abu,awv,aeh,acM] ⟨aa9,axV,adC,abI,trivial⟩
noncomputable def adS (y0:OPushV) (y1:EnvP):Option ((Bool×Unit)×(OPushV×EnvP×Unit)) :=
 (aaw y0.o).bind fun r1 =>
 if r1.1.1=true then
 some ((true,()),(({ y0 with o:=r1.2.1 }:OPushV),y1,()))
 else
 if y0.line=1 then
 (acJ y1.m y0.q.bottom).bind fun r2 =>
 some ((false,()),(({ y0 with o:=r1.2.1,line:=wi (y0.line+1),b:=r2.1.1 }:OPushV),({ y1 with m:=r2.2.1 }:EnvP),()))
 else
 if y0.line=2 then
 (acJ y1.m y0.q.top).bind fun r3 =>
 (awu y0.b r3.1.1).bind fun r4 =>
 if y0.q.cap=y0.q.cap then
 if y0.q.cap≤r4.1.1 then
 (abi r1.2.1 3 0).bind fun r5 =>
 some ((r5.1.1,()),(({ y0 with o:=r5.2.1 }:OPushV),({ y1 with m:=r3.2.1 }:EnvP),()))
 else
 some ((false,()),(({ y0 with o:=r1.2.1,line:=wi (y0.line+1) }:OPushV),({ y1 with m:=r3.2.1 }:EnvP),()))
 else none
 else
 if y0.line=3 then
 (awy y0.q y0.b).bind fun r6 =>
 if y0.value=y0.value then
 (aa5 y1.m r6.1.1 (wu (y0.value))).bind fun r7 =>
 some ((false,()),(({ y0 with o:=r1.2.1,line:=wi (y0.line+1) }:OPushV),({ y1 with m:=r7.2.1 }:EnvP),()))
 else none
 else
 (aa5 y1.m y0.q.bottom (wu (y0.b+1))).bind fun r8 =>
 (abi r1.2.1 0 0).bind fun r9 =>
 some ((r9.1.1,()),(({ y0 with o:=r9.2.1 }:OPushV),({ y1 with m:=r8.2.1 }:EnvP),()))
noncomputable abbrev aqU:Con SR1:=⟨279,[.ref 53,.ref 27],[.sh .b],fun x =>adS x.1 x.2.1⟩
theorem apq:CO Tryz.prog aqU:=aam aah Tryz.func279 [abu,acL,aoc,acM,atc,aeh] ⟨aa9,abW,amX,abI,atb,adC,trivial⟩
noncomputable def aik (y0:OPopV) (y1:EnvP):Option ((Int×Unit)×(OPopV×EnvP×Unit)) :=
 (acJ y1.m y0.q.top).bind fun r1 =>
 (awu (wu (y0.b-1)) r1.1.1).bind fun r2 =>
 if 0<r2.1.1 then
 some ((5,()),(({ y0 with t:=r1.1.1 }:OPopV),({ y1 with m:=r1.2.1 }:EnvP),()))
 else
 if r2.1.1=0 then
 some ((6,()),(({ y0 with t:=r1.1.1 }:OPopV),({ y1 with m:=r1.2.1 }:EnvP),()))
 else
 some ((9,()),(({ y0 with t:=r1.1.1 }:OPopV),({ y1 with m:=r1.2.1 }:EnvP),()))
noncomputable abbrev ajO:Con SR1:=⟨277,[.ref 52,.ref 27],[.sh sI_],fun x =>aik x.1 x.2.1⟩
theorem aof:CO Tryz.prog ajO:=aam aah Tryz.func277 [acL,aoc] ⟨abW,amX,trivial⟩
noncomputable def aes (y0:OPopV) (y1:EnvP):Option ((Bool×Unit)×(OPopV×EnvP×Unit)) :=
 (aaw y0.o).bind fun r1 =>
 if r1.1.1=true then
 some ((true,()),(({ y0 with o:=r1.2.1 }:OPopV),y1,()))
 else
 if y0.line=1 then
 (acJ y1.m y0.q.bottom).bind fun r2 =>
 some ((false,()),(({ y0 with o:=r1.2.1,line:=wi (y0.line+1),b:=r2.1.1 }:OPopV),({ y1 with m:=r2.2.1 }:EnvP),()))
 else
 if y0.line=2 then
 (acJ y1.m y0.q.top).bind fun r3 =>
 (awu y0.b r3.1.1).bind fun r4 =>
 if r4.1.1≤0 then
 (abi r1.2.1 2 0).bind fun r5 =>
 some ((r5.1.1,()),(({ y0 with o:=r5.2.1,t:=r3.1.1 }:OPopV),({ y1 with m:=r3.2.1 }:EnvP),()))
 else
 some ((false,()),(({ y0 with o:=r1.2.1,line:=wi (y0.line+1),t:=r3.1.1 }:OPopV),({ y1 with m:=r3.2.1 }:EnvP),()))
 else
 if y0.line=3 then
 (aa5 y1.m y0.q.bottom (wu (y0.b-1))).bind fun r6 =>
 some ((false,()),(({ y0 with o:=r1.2.1,line:=wi (y0.line+1) }:OPopV),({ y1 with m:=r6.2.1 }:EnvP),()))
 else
 if y0.line=4 then
 (aik ({ y0 with o:=r1.2.1 }:OPopV) y1).bind fun r7 =>
 some ((false,()),(({ r7.2.1 with line:=r7.1.1 }:OPopV),r7.2.2.1,()))
 else
 if y0.line=5 then
 if y0.line=5 then
 (awy y0.q (wu (y0.b-1))).bind fun r8 =>
 (acJ y1.m r8.1.1).bind fun r9 =>
 (abi r1.2.1 1 (wi (r9.1.1))).bind fun r10 =>
 some ((r10.1.1,()),(({ y0 with o:=r10.2.1 }:OPopV),({ y1 with m:=r9.2.1 }:EnvP),()))
 else
 if y0.line=6 then
 (auj y1.m y0.q.top y0.t (wu (y0.t+1))).bind fun r11 =>
 if (!r11.1.1)=true then
 some ((false,()),(({ y0 with o:=r1.2.1,line:=9 }:OPopV),({ y1 with m:=r11.2.1 }:EnvP),()))
 else
 some ((false,()),(({ y0 with o:=r1.2.1,line:=wi (y0.line+1) }:OPopV),({ y1 with m:=r11.2.1 }:EnvP),()))
 else
 if y0.line=7 then
 (aa5 y1.m y0.q.bottom y0.b).bind fun r12 =>
 some ((false,()),(({ y0 with o:=r1.2.1,line:=wi (y0.line+1) }:OPopV),({ y1 with m:=r12.2.1 }:EnvP),()))
 else
 (aa5 y1.m y0.q.bottom y0.b).bind fun r13 =>
 (abi r1.2.1 2 0).bind fun r14 =>
 some ((r14.1.1,()),(({ y0 with o:=r14.2.1 }:OPopV),({ y1 with m:=r13.2.1 }:EnvP),()))
 else
 if y0.line=8 then
 (awy y0.q (wu (y0.b-1))).bind fun r15 =>
 (acJ y1.m r15.1.1).bind fun r16 =>
 (abi r1.2.1 1 (wi (r16.1.1))).bind fun r17 =>
 some ((r17.1.1,()),(({ y0 with o:=r17.2.1 }:OPopV),({ y1 with m:=r16.2.1 }:EnvP),()))
 else
 if y0.line=6 then
 (auj y1.m y0.q.top y0.t (wu (y0.t+1))).bind fun r18 =>
 if (!r18.1.1)=true then
 some ((false,()),(({ y0 with o:=r1.2.1,line:=9 }:OPopV),({ y1 with m:=r18.2.1 }:EnvP),()))
 else
 some ((false,()),(({ y0 with o:=r1.2.1,line:=wi (y0.line+1) }:OPopV),({ y1 with m:=r18.2.1 }:EnvP),()))
 else
 if y0.line=7 then
 (aa5 y1.m y0.q.bottom y0.b).bind fun r19 =>
 some ((false,()),(({ y0 with o:=r1.2.1,line:=wi (y0.line+1) }:OPopV),({ y1 with m:=r19.2.1 }:EnvP),()))
 else
 (aa5 y1.m y0.q.bottom y0.b).bind fun r20 =>
 (abi r1.2.1 2 0).bind fun r21 =>
 some ((r21.1.1,()),(({ y0 with o:=r21.2.1 }:OPopV),({ y1 with m:=r20.2.1 }:EnvP),()))
noncomputable abbrev arV:Con SR1:=⟨276,[.ref 52,.ref 27],[.sh .b],fun x =>aes x.1 x.2.1⟩
theorem aqW:CO Tryz.prog arV:=aam aah Tryz.func276 [abu,acL,aoc,acM,aeh,ajO,atc,amZ] ⟨aa9,abW,amX,abI,adC,aof,atb,aky,trivial⟩
noncomputable def adj (y0:StealV) (y1:EnvP):Option ((Bool×Unit)×(StealV×EnvP×Unit)) :=
 (aaw y0.o).bind fun r1 =>
 if r1.1.1=true then
 some ((true,()),(({ y0 with o:=r1.2.1 }:StealV),y1,()))
 else
 if y0.line=1 then
 (acJ y1.m y0.q.top).bind fun r2 =>
 some ((false,()),(({ y0 with o:=r1.2.1,line:=wi (y0.line+1),t:=r2.1.1 }:StealV),({ y1 with m:=r2.2.1 }:EnvP),()))
 else
 if y0.line=2 then
 (acJ y1.m y0.q.bottom).bind fun r3 =>
 (awu r3.1.1 y0.t).bind fun r4 =>
 if r4.1.1≤0 then
 (abi r1.2.1 2 0).bind fun r5 =>
 some ((r5.1.1,()),(({ y0 with o:=r5.2.1 }:StealV),({ y1 with m:=r3.2.1 }:EnvP),()))
 else
 some ((false,()),(({ y0 with o:=r1.2.1,line:=wi (y0.line+1) }:StealV),({ y1 with m:=r3.2.1 }:EnvP),()))
 else
 if y0.line=3 then
 (awy y0.q y0.t).bind fun r6 =>
 (acJ y1.m r6.1.1).bind fun r7 =>
 some ((false,()),(({ y0 with o:=r1.2.1,line:=wi (y0.line+1),value:=r7.1.1 }:StealV),({ y1 with m:=r7.2.1 }:EnvP),()))
 else
 (auj y1.m y0.q.top y0.t (wu (y0.t+1))).bind fun r8 =>
 if r8.1.1=true then
 (abi r1.2.1 1 (wi (y0.value))).bind fun r9 =>
 some ((r9.1.1,()),(({ y0 with o:=r9.2.1 }:StealV),({ y1 with m:=r8.2.1 }:EnvP),()))
 else
 (abi r1.2.1 4 0).bind fun r10 =>
 some ((r10.1.1,()),(({ y0 with o:=r10.2.1 }:StealV),({ y1 with m:=r8.2.1 }:EnvP),()))
noncomputable abbrev apa:Con SR1:=⟨216,[.ref 42,.ref 27],[.sh .b],fun x =>adj x.1 x.2.1⟩
theorem anO:CO Tryz.prog apa:=aam aah Tryz.func216 [abu,acL,aoc,acM,atc,amZ] ⟨aa9,abW,amX,abI,atb,aky,trivial⟩
noncomputable def adW (y0:SetV) (y1:EnvP):Option ((Bool×Unit)×(SetV×EnvP×Unit)) :=
 (aaw y0.o).bind fun r1 =>
 if r1.1.1=true then
 some ((true,()),(({ y0 with o:=r1.2.1 }:SetV),y1,()))
 else
 (aCm y0.bit).bind fun r2 =>
 if y0.cell=y0.cell then
 (pOr y1.m y0.cell r2.1.1).bind fun r3 =>
 (abi r1.2.1 0 0).bind fun r4 =>
 some ((r4.1.1,()),(({ y0 with o:=r4.2.1 }:SetV),({ y1 with m:=r3.2.1 }:EnvP),()))
 else none
noncomputable abbrev arK:Con SR1:=⟨281,[.ref 54,.ref 27],[.sh .b],fun x =>adW x.1 x.2.1⟩
theorem apE:CO Tryz.prog arK:=aam aah Tryz.func281 [abu,au1,aDh,acM] ⟨aa9,ate,aAs,abI,trivial⟩
noncomputable def acT (y0:ResetV) (y1:EnvP):Option ((Bool×Unit)×(ResetV×EnvP×Unit)) :=
 (aaw y0.o).bind fun r1 =>
 if r1.1.1=true then
 some ((true,()),(({ y0 with o:=r1.2.1 }:ResetV),y1,()))
 else
 (aCm y0.bit).bind fun r2 =>
 if y0.line=1 then
 (aEN y1.m y0.cell (aEd r2.1.1)).bind fun r3 =>
 some ((false,()),(({ y0 with o:=r1.2.1,line:=wi (y0.line+1) }:ResetV),({ y1 with m:=r3.2.1 }:EnvP),()))
 else
 if y0.line=2 then
 (acJ y1.m y0.q.bottom).bind fun r4 =>
 some ((false,()),(({ y0 with o:=r1.2.1,line:=wi (y0.line+1),b:=r4.1.1 }:ResetV),({ y1 with m:=r4.2.1 }:EnvP),()))
 else
 if y0.line=3 then
 (acJ y1.m y0.q.top).bind fun r5 =>
 (awu y0.b r5.1.1).bind fun r6 =>
 if r6.1.1≤0 then
 (abi r1.2.1 2 0).bind fun r7 =>
 some ((r7.1.1,()),(({ y0 with o:=r7.2.1 }:ResetV),({ y1 with m:=r5.2.1 }:EnvP),()))
 else
 some ((false,()),(({ y0 with o:=r1.2.1,line:=wi (y0.line+1) }:ResetV),({ y1 with m:=r5.2.1 }:EnvP),()))
 else
 (pOr y1.m y0.cell r2.1.1).bind fun r8 =>
 (abi r1.2.1 1 0).bind fun r9 =>
 some ((r9.1.1,()),(({ y0 with o:=r9.2.1 }:ResetV),({ y1 with m:=r8.2.1 }:EnvP),()))
noncomputable abbrev aoz:Con SR1:=⟨220,[.ref 43,.ref 27],[.sh .b],fun x =>acT x.1 x.2.1⟩
theorem anB:CO Tryz.prog aoz:=aam aah Tryz.func220 [abu,au1,ax2,acL,aoc,acM,aDh] ⟨aa9,ate,awB,abW,amX,abI,aAs,trivial⟩
noncomputable def adU (y0:InsertV):Option ((Int×Unit)×(InsertV×Unit)) :=
 if 0<y0.i then
 some ((3,()),(y0,()))
 else
 some ((5,()),(y0,()))
noncomputable abbrev agO:Con SR1:=⟨188,[.ref 36],[.sh sI_],fun x =>adU x.1⟩
theorem aj1:CO Tryz.prog agO:=aam aah Tryz.func188 [] trivial
end
end Go.Proofs.YteapeojalliebaaGreat
