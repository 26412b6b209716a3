/- slices.Insert at queue.Key,walked. slices.Insert at queue.Key in the evaluator's form. What EarliestFirst calls,in the evaluator's form. A heap with a hole: sifting up,sifting down,and what it contains. No program occurs here. -/
import Derived.Test.YtdnimkpfgjcjeaaGreatRows
import Derived.Test.YtdnimkpfgjcjeaaGreatEzaa
import Derived.WalkKit
import Derived.Shelf.Spec.SlicesInsertGrow
import Derived.Test.YtdnimkpfgjcjeaaGreatEzal
set_option linter.all false
namespace Go.Proofs.YtdnimkpfgjcjeaaGreat
section
open Go Go.RowKit Go.Lib
set_option maxRecDepth 100000
set_option maxHeartbeats 4000000
theorem aua (w:World):(Go.underlying 86).run Tryz.prog w=.ok (.slice 90) w:=acd Tryz.underlying86
theorem azl:∃ i,Tryz.prog.info? 90=some i∧i.zero=some (.agg #[.int .i64 0,.int .i64 0,.int .i64 0])∧i.size=3∧i.bytes=24:=by
 obtain ⟨i,hi⟩:∃ i,Tryz.prog.info? 90=some i∧i.zero=some (.agg #[.int .i64 0,.int .i64 0,.int .i64 0])∧i.size=3∧i.bytes=24:=⟨_,rfl,by kernel_rfl,by kernel_rfl,by kernel_rfl⟩
 exact ⟨i,hi⟩
theorem axD (w:World):(Go.sizeOf 90).run Tryz.prog w=.ok 3 w:=by
 obtain ⟨i,h1,h2,h3,h4⟩:=azl
 unfold Go.sizeOf
 rw [aaa (ab7 h1),h3]
 rfl
theorem aEZ (base:Option Addr) (n c vb voff vc:Nat) (v':Value) (w W1:World) (hnc:n≤c) (hc63:c≤9223372036854775807) (hb:base=none→n=0∧c=0)
  (h1:∀ ty,(Builtin.append_ #[86,86] ty #[.slice base n c,.slice (some ⟨vb,voff,none⟩) 1 vc]).run Tryz.prog w=.ok v' W1) :
  Calls Tryz.prog 67 #[.slice base n c,.int .i64 n,.slice (some ⟨vb,voff,none⟩) 1 vc] w fun e w' =>e=.returned v'∧w'=W1:=by
 have q1:=aua
 have q2:=axD
 have q3:=Tryz.underlying86
 go_enter Tryz.func67,Tryz.ntmps67
 cases base with
 | none =>
  obtain ⟨rfl,rfl⟩:=hb rfl
  go_wp2_with (at_builtin; refine Lib.wpList_append_run _ rfl _ _ _ _ rfl _ _ rfl rfl _ _ (h1 _) ?_)
  go_ret
  exact ⟨rfl,rfl⟩
 | some a =>
  obtain ⟨ab,ao,asp⟩:=a
  go_wp2_with (at_builtin; refine Lib.wpList_append_run _ rfl _ _ _ _ rfl _ _ rfl rfl _ _ (h1 _) ?_)
  all_goals (go_ret; exact ⟨rfl,rfl⟩)
theorem azq (b off n c i vb voff vc:Nat) (r1 r2:Value) (w W1 W2:World) (hi:i<n) (hroom:n+1≤c) (hc63:c≤9223372036854775807)
  (hov:∀ cb,(callFunc 75 #[.slice (some ⟨vb,voff,none⟩) 1 vc,.slice (some ⟨b,off+(i+1)*3,none⟩) (n-i) cb]).run Tryz.prog w=.ok (.value (.bool false)) w)
  (h1:∀ ty dc sc,(Builtin.copy_ #[86,86] ty #[.slice (some ⟨b,off+(i+1)*3,none⟩) (n+1-(i+1)) dc,.slice (some ⟨b,off+i*3,none⟩) (n+1-i) sc]).run Tryz.prog w.drew=.ok r1 W1)
  (h2:∀ ty dc,(Builtin.copy_ #[86,86] ty #[.slice (some ⟨b,off+i*3,none⟩) (n+1-i) dc,.slice (some ⟨vb,voff,none⟩) 1 vc]).run Tryz.prog W1=.ok r2 W2) :
  Calls Tryz.prog 67 #[.slice (some ⟨b,off,none⟩) n c,.int .i64 i,.slice (some ⟨vb,voff,none⟩) 1 vc] w fun e w' =>e=.returned (.slice (some ⟨b,off,none⟩) (n+1) c)∧w'=W2:=by
 have q1:=aua
 have q2:=axD
 have q3:=Tryz.underlying86
 have aaj:Tryz.prog.follows .mixedOrders=true:=by kernel_rfl
 have hz2:¬ ((i:Int)=(n:Int)):=by omega
 have hw1:IntKind.i64.wrap ((i:Int)+1)=(i:Int)+1:=by rw [IntKind.wrap_i64]; omega
 have hw2:IntKind.i64.wrap ((n:Int)+1)=(n:Int)+1:=by rw [IntKind.wrap_i64]; omega
 have hb1:(0:Int)≤(i:Int)+1:=by omega
 have hin:i≤n:=by omega
 have htn:((i:Int)+1).toNat=i+1:=by omega
 have htn2:((n:Int)+1).toNat=n+1:=by omega
 have hb2:¬ (c=i+1):=by omega
 have hb3:(i:Int)≤(n:Int)+1:=by omega
 have hb4:¬ (c=i):=by omega
 go_enter Tryz.func67,Tryz.ntmps67
 go_wp2_with (simp only [hov])
 go_region_law_o (refine step_copy_runI rfl _ _ 86 86 rfl (.slice (some ⟨b,off+(i+1)*3,none⟩) (n+1-(i+1)) (c-(i+1))) (.slice (some ⟨b,off+i*3,none⟩) (n+1-i) (c-i)) (by simp [Act.eval,Act.put]) (by simp [Act.eval,Act.put]) (h1 _ _ _) ?_)
 go_wp2_with (at_builtin; refine wpList_copy_runI _ rfl _ _ 86 86 rfl _ _ rfl rfl (h2 _ _) ?_)
 go_ret
 exact ⟨rfl,rfl⟩
theorem aB2 (b off n c i vb voff vc g G:Nat) (r1 r2:Value) (w W0 W1 W2:World) (hi:i<n) (hnc:n≤c) (hroom:c<n+1) (hc63:c≤9223372036854775807) (hn63:n+1≤9223372036854775807) (hG:n+1≤G) (hG63:G≤9223372036854775807)
  (h0:∀ ty,(Builtin.append_ #[86,3] ty #[.slice (some ⟨b,off,none⟩) i c,.int .i64 ((n:Int)+1-(i:Int))]).run Tryz.prog w=.ok (.slice (some ⟨g,0,none⟩) (n+1) G) W0)
  (h1:∀ ty,(Builtin.copy_ #[86,86] ty #[.slice (some ⟨g,i*3,none⟩) (n+1-i) (G-i),.slice (some ⟨vb,voff,none⟩) 1 vc]).run Tryz.prog W0=.ok r1 W1)
  (h2:∀ ty,(Builtin.copy_ #[86,86] ty #[.slice (some ⟨g,(i+1)*3,none⟩) (n+1-(i+1)) (G-(i+1)),.slice (some ⟨b,off+i*3,none⟩) (n-i) (c-i)]).run Tryz.prog W1.drew=.ok r2 W2) :
  Calls Tryz.prog 67 #[.slice (some ⟨b,off,none⟩) n c,.int .i64 i,.slice (some ⟨vb,voff,none⟩) 1 vc] w fun e w' =>e=.returned (.slice (some ⟨g,0,none⟩) (n+1) G)∧w'=W2:=by
 have q1:=aua
 have q2:=axD
 have q3:=Tryz.underlying86
 have aaj:Tryz.prog.follows .mixedOrders=true:=by kernel_rfl
 have hz2:¬ ((i:Int)=(n:Int)):=by omega
 have hz3:(c:Int)<(n:Int)+1:=by omega
 have hw1:IntKind.i64.wrap ((i:Int)+1)=(i:Int)+1:=by rw [IntKind.wrap_i64]; omega
 have hw2:IntKind.i64.wrap ((n:Int)+1)=(n:Int)+1:=by rw [IntKind.wrap_i64]; omega
 have hw3:IntKind.i64.wrap ((n:Int)+1-(i:Int))=(n:Int)+1-(i:Int):=by rw [IntKind.wrap_i64]; omega
 have hb1:(0:Int)≤(i:Int)+1:=by omega
 have hin:i≤n:=by omega
 have htn:((i:Int)+1).toNat=i+1:=by omega
 have hb3:(i:Int)≤(n:Int):=by omega
 have hb4:¬ (c=i):=by omega
 have hG1:¬ (G=i):=by omega
 have hG2:¬ (G=i+1):=by omega
 have hb5:(i:Int)≤(n:Int)+1:=by omega
 go_enter Tryz.func67,Tryz.ntmps67
 go_wp2_with (first
  | (at_builtin; refine Lib.wpList_append_run _ rfl _ _ _ _ rfl _ _ rfl rfl _ _ (h0 _) ?_)
  | (at_builtin; refine wpList_copy_runI _ rfl _ _ 86 86 rfl (.slice (some ⟨g,i*3,none⟩) (n+1-i) (G-i)) (.slice (some ⟨vb,voff,none⟩) 1 vc) (by simp [Act.eval,Act.put]) (by simp [Act.eval,Act.put]) (h1 _) ?_))
 go_region_law_o (refine step_copy_runI rfl _ _ 86 86 rfl (.slice (some ⟨g,(i+1)*3,none⟩) (n+1-(i+1)) (G-(i+1))) (.slice (some ⟨b,off+i*3,none⟩) (n-i) (c-i)) (by simp [Act.eval,Act.put]) (by simp [Act.eval,Act.put]) (h2 _) ?_)
 go_wp2
 go_ret
 exact ⟨rfl,rfl⟩
end
section
open Go Go.RowKit Go.Lib
set_option maxRecDepth 100000
theorem aoT {w w1:World} {ty:TypeId} {b o dLen dCap sLen sCap n:Nat} {a:Addr} {cs:List Value} (hn:Nat.min sLen dLen=n) (hl:∀ j u,cs[j]?=some u→w.cell? (a.add j)=some u) (hc:cs.length=n*3) (hst:(storeCells ⟨b,o,none⟩ cs 0).run Tryz.prog w=.ok () w1) :
  (Builtin.copy_ #[86,86] ty #[.slice (some ⟨b,o,none⟩) dLen dCap,.slice (some a) sLen sCap]).run Tryz.prog w=.ok (goInt n) w1:=by
 have h1:(loadCells a (n*3)).run Tryz.prog w=.ok cs.toArray w:=by rw [← hc]; exact run_loadCells_list w a cs hl
 have h2:=aua
 have h3:=axD
 simp [Builtin.copy_,h2,h3,Builtin.lenOf,Builtin.firstCells,hn,h1,hst]
section
variable {B:Nat} {W w:World} {L:List aad} {A A2:Option Addr} {n c c2 i:Nat} {X Y:List Value}
theorem aHl {b o vb vo:Nat} {Z:List Value} {cb:Nat} (s:Sat B w (pts b o Z::pts vb vo Y::L)) (hY:Y.length=3) (hZ:(n+1)*3≤Z.length) (hi:i<n) :
  (callFunc 75 #[.slice (some ⟨vb,vo,none⟩) 1 c2,.slice (some ⟨b,o+(i+1)*3,none⟩) (n-i) cb]).run Tryz.prog w=.ok (.value (.bool false)) w:=by
 have hv:=s.drop.cell (i:=0) (v:=Y[0]'(by omega)) (List.getElem?_eq_getElem _)
 have hb:=s.cell (i:=0) (v:=Z[0]'(by omega)) (List.getElem?_eq_getElem _)
 have tv:=s.drop.tame (i:=0) (v:=Y[0]'(by omega)) (List.getElem?_eq_getElem _)
 have sh:∀ {b o:Nat} {v:Value},w.cell? ⟨b,o,none⟩=some v→∃ t k,w.shape? b=some (t,k)∧k≠0:=fun {b o v} h =>by
  unfold World.cell? at h
  unfold World.shape?
  cases hh:w.heap[b]? with
  | none =>rw [hh] at h; cases h
  | some x =>
   rw [hh] at h
   cases x<;>simp at h ⊢
   rename_i cs el fr
   have hlt:=(Array.getElem?_eq_some_iff.1 h).1
   exact ⟨el,cs.size,⟨rfl,rfl⟩,by omega⟩
 obtain ⟨tA,kA,s1,_⟩:=sh hv.2.1
 obtain ⟨tB,kB,s2,s3⟩:=sh hb.2.1
 rw [run_callFunc_extern Tryz.func75 (by kernel_rfl) (by kernel_rfl) (by kernel_rfl) (e:=Extern.SlicesOverlaps.overlaps #[86,86] #[4]) (by kernel_rfl)]
 by_cases hne:vb=b
 ·subst hne
  have hno:¬ (vo<o+(i+1)*3+(n-i)*3∧o+(i+1)*3<vo+3):=fun ⟨q1,q2⟩ =>by
   obtain ⟨h,H,k1,k2,a,e,hA,hL⟩:=s
   obtain ⟨k3,k4,a',e',hA',_⟩:=hL
   have key:∀ x,vo≤x→x<vo+3→o≤x→x<o+(n+1)*3→False:=fun x p1 p2 p3 p4 =>by
    have c1:=hA (x-o) _ (List.getElem?_eq_getElem (by omega))
    have c2:=hA' (x-vo) _ (List.getElem?_eq_getElem (by omega))
    rw [show o+(x-o)=x by omega] at c1
    rw [show vo+(x-vo)=x by omega] at c2
    have c3:k2 vb x=some (.cell (Y[x-vo]'(by omega))):=by rw [e']; unfold adf; rw [c2]
    rcases a vb x with h1 | h1 | ⟨v,h1,_⟩
    ·rw [h1] at c1; cases c1
    ·rw [h1] at c3; cases c3
    ·rw [h1] at c1; cases c1
   by_cases hx:vo≤o+(i+1)*3
   ·exact key (o+(i+1)*3) hx q2 (by omega) (by omega)
   ·exact key vo (Nat.le_refl _) (by omega) (by omega) (by omega)
  have u1:=aua
  have u2:=axD
  have hni:¬ (n-i=0):=by omega
  have:(Extern.SlicesOverlaps.overlaps #[86,86] #[4] #[.slice (some ⟨vb,vo,none⟩) 1 c2,.slice (some ⟨vb,o+(i+1)*3,none⟩) (n-i) cb]).run Tryz.prog w=.ok (.bool false) w:=by
   delta Extern.SlicesOverlaps.overlaps
   delta Extern.SlicesOverlaps.overlaps.match_4
   simp [u1,u2,hni]
   delta Extern.SlicesOverlaps.overlaps._sparseCasesOn_4
   simp only [Array.getLit]
   simp [u1,u2,hni]
   omega
  rw [this]; rfl
 ·rw [Lib.run_overlaps_apart w 86 4 90 Tryz.underlying86 3 axD ⟨vb,vo,none⟩ ⟨b,o+(i+1)*3,none⟩ 1 c2 (n-i) cb hne tA tB kA kB s1 s2 s3 hv.2.2 (tv tA kA s1)]
  rfl
theorem aHm (s:Sat B w (aef A n c 3 X::aef A2 1 c2 3 Y::L)) (hb:Below B W w) (hl:B≤w.heap.size) (hX:X.all acK=true) (hY:Y.all acK=true) (hi:i≤n) (hn:n≤1000000) :
  Calls Tryz.prog 67 #[.slice A n c,.int .i64 i,.slice A2 1 c2] w fun e w' =>∃ A' c',e=.returned (.slice A' (n+1) c')∧Cls B W (aef A' (n+1) c' 3 (X.take (i*3)++Y++X.drop (i*3))::L) w':=by
 obtain ⟨hXl,hnc,hcm,hA⟩:=aeB s (List.mem_cons_self ..)
 obtain ⟨h0,H0,k1,k2,ap,e,hr1,hL⟩:=s
 obtain ⟨k3,k4,ap2,e2,⟨hYl,hc1,hcm2,hA2⟩,hL2⟩:=hL
 rcases hA2 with ⟨_,rfl⟩ | ⟨vb,vo,sp2,rfl,hsp2,hp2⟩
 ·omega
 have hY3:Y.length=3:=by omega
 have s:Sat B w (aef A n c 3 X::pts vb vo Y::L):=⟨h0,H0,k1,k2,ap,e,hr1,k3,k4,ap2,e2,(aj9 hp2).1,hL2⟩
 have sv:Sat B w (pts vb vo Y::L):=s.drop
 obtain ⟨y0,hy0⟩:∃ y,Y[0]?=some y:=⟨Y[0]'(by omega),List.getElem?_eq_getElem _⟩
 have hYc:∀ j u,Y[j]?=some u→w.cell? ((⟨vb,vo,none⟩:Addr).add j)=some u:=fun j u hj =>by rw [abL]; exact (sv.cell hj).2.1
 by_cases hin:i=n
 ·subst hin
  obtain ⟨inf,f1,f2,f3,f4⟩:=azl
  obtain ⟨A',c',w',h1,h2⟩:=anA (P:=Tryz.prog) (ty:=86) (c:=c2) (k:=1) (sz:=3) (z:=.agg #[.int .i64 0,.int .i64 0,.int .i64 0]) (by_:=24) Tryz.underlying86 ⟨inf,f1,f2,f3,f4⟩ rfl (by decide) s hb hl (by omega) hY (by decide) (by unfold maxLen; omega) (by omega)
  refine (aEZ A i c vb vo c2 _ w w' hnc (by unfold maxLen at hcm; omega) (fun e =>?_) (fun ty =>h1)).mono fun e w2 ⟨he,hw⟩ =>?_
  ·rcases hA with ⟨_,h⟩ | ⟨b,o,h,_⟩
   ·omega
   ·rw [h] at e; cases e
  ·subst hw
   refine ⟨A',c',he,h2.1,h2.2.1,?_⟩
   have e1:X.take (i*3)++Y++X.drop (i*3)=X++Y:=by
    rw [List.take_of_length_le (by omega),List.drop_eq_nil_of_le (by omega),List.append_nil]
   rw [e1]
   obtain ⟨q0,Q,q1,q2,qa,qe,g1,g2⟩:=h2.2.2
   exact Sat.perm (L:=[aef A' (i+1) c' 3 (X++Y),pts vb vo Y]++L) ⟨q0,Q,q1,q2,qa,qe,g1,g2⟩ (List.Perm.refl _) |>.imp fun h =>abi fun h hh =>by
    obtain ⟨_,_,ap,e,_,hM⟩:=hh
    have:abC ([]++L) h:=aal.2 ⟨_,_,ap,e,trivial,hM⟩
    exact this
 ·have hlt:i<n:=by omega
  rcases hA with ⟨_,h⟩ | ⟨b,o,rfl,hcells⟩
  ·omega
  obtain ⟨q0,Q,q1,q2,qa,qe,⟨_,_,_,hA⟩,qL⟩:=s
  rcases hA with ⟨h,_⟩ | ⟨b',o',sp,he,hsp,hp⟩
  ·cases h
  obtain ⟨rfl,rfl⟩:b=b'∧o=o':=by
   have:=Option.some.inj he; exact ⟨congrArg Addr.block this,congrArg Addr.off this⟩
  have s:Sat B w (pts b o (X++sp)::pts vb vo Y::L):=⟨q0,Q,q1,q2,qa,qe,hp,qL⟩
  have hXd:(X.drop (i*3)).length=(n-i)*3:=by rw [List.length_drop,hXl]; omega
  have hXda:(X.drop (i*3)).all acK=true:=List.all_eq_true.2 fun u hu =>List.all_eq_true.1 hX u (List.mem_of_mem_drop hu)
  by_cases hroom:n+1≤c
  ·have hspl:3≤sp.length:=by
    rw [hsp]
    have:1≤c-n:=by omega
    omega
   have sd:=s.below (w':=w.drew) ((Below.refl _ _).drew)
   obtain ⟨W1,g1,g2⟩:=acz (P:=Tryz.prog) (W:=W) (b:=b) (o:=o) (o':=o+(i+1)*3) (X.drop (i*3)) 0 ((i+1)*3) (X++sp) w.drew _ (by omega) hXda (by rw [hXd,List.length_append,hXl]; omega) sd hb.drew (by simpa using hl)
   obtain ⟨W2,g3,g4⟩:=acz (P:=Tryz.prog) (W:=W) (b:=b) (o:=o) (o':=o+i*3) Y 0 (i*3) _ W1 _ (by omega) hY (by simp only [List.length_append,List.length_take,List.length_drop,hXl,hY3]; omega) g2.2.2 g2.1 g2.2.1
   have ov:∀ cb,(callFunc 75 #[.slice (some ⟨vb,vo,none⟩) 1 c2,.slice (some ⟨b,o+(i+1)*3,none⟩) (n-i) cb]).run Tryz.prog w=.ok (.value (.bool false)) w:=fun cb =>aHl s hY3 (by rw [List.length_append,hXl]; omega) hlt
   refine (azq b o n c i vb vo c2 (goInt ((n-i:Nat):Int)) (goInt 1) w W1 W2 hlt hroom (by unfold maxLen at hcm; omega) ov (fun ty dc sc =>?_) (fun ty dc =>?_)).mono fun e w2 ⟨he,hw⟩ =>?_
   ·refine aoT (n:=n-i) (sLen:=n+1-i) (dLen:=n+1-(i+1)) (by simp only [Nat.min_def]; split<;>omega) (fun j u hj =>?_) hXd g1
    rw [abL,Nat.add_assoc]
    refine (sd.cell ?_).2.1
    rw [List.getElem?_drop] at hj
    rw [List.getElem?_append_left (List.getElem?_eq_some_iff.1 hj).1]
    exact hj
   ·refine aoT (n:=1) (sLen:=1) (dLen:=n+1-i) (by simp only [Nat.min_def]; split<;>omega) (fun j u hj =>?_) (by omega) g3
    rw [abL]
    exact (g2.2.2.drop.cell hj).2.1
   ·subst hw
    refine ⟨some ⟨b,o,none⟩,c,he,g4.1,g4.2.1,?_⟩
    have s3:=g4.2.2
    refine s3.imp fun h =>fun hh =>?_
    obtain ⟨a1,a2,a3,a4,a5,a6⟩:=hh
    obtain ⟨_,_,b1,b2,_,b3⟩:=a6
    have b4:abC L a2:=by
     have:abC ([]++L) a2:=aal.2 ⟨_,_,b1,b2,trivial,b3⟩
     exact this
    refine ⟨a1,a2,a3,a4,⟨?_,hroom,hcm,.inr ⟨b,o,sp.drop 3,rfl,?_,?_⟩⟩,b4⟩
    ·simp only [List.length_append,List.length_take,List.length_drop,hXl,hY3]; omega
    ·rw [List.length_drop,hsp]; omega
    ·have e1:((X++sp).take ((i+1)*3)++X.drop (i*3)++(X++sp).drop ((i+1)*3+(X.drop (i*3)).length)).take (i*3)=X.take (i*3):=by
      rw [List.append_assoc,List.take_append_of_le_length (by rw [List.length_take,List.length_append,hXl]; omega),List.take_take,Nat.min_eq_left (by omega),List.take_append_of_le_length (by omega)]
     have e2:((X++sp).take ((i+1)*3)++X.drop (i*3)++(X++sp).drop ((i+1)*3+(X.drop (i*3)).length)).drop (i*3+Y.length)=X.drop (i*3)++sp.drop 3:=by
      have l1:((X++sp).take ((i+1)*3)).length=i*3+Y.length:=by rw [List.length_take,List.length_append,hXl]; omega
      rw [List.append_assoc,← l1,List.drop_left,hXd]
      congr 1
      rw [List.drop_append,List.drop_eq_nil_of_le (by omega),List.nil_append]
      congr 1
      omega
     rw [e1,e2] at a5
     simpa [List.append_assoc] using a5
  ·obtain ⟨inf,f1,f2,f3,f4⟩:=azl
   have sd:=s.below (w':=w.drew) ((Below.refl _ _).drew)
   have hXt:(X.take (i*3)).length=i*3:=by rw [List.length_take,hXl]; omega
   have hold:(Builtin.firstCells inf.size i (.slice (some ⟨b,o,none⟩) i c)).run Tryz.prog w.drew=.ok (X.take (i*3)).toArray w.drew:=by
    rw [f3]
    refine run_firstCells_some w.drew 3 i ⟨b,o,none⟩ i c (X.take (i*3)) hXt fun j v hj =>?_
    rw [abL]
    refine (sd.cell ?_).2.1
    rw [List.getElem?_take] at hj
    split at hj
    ·rw [List.getElem?_append_left (List.getElem?_eq_some_iff.1 hj).1]; exact hj
    ·cases hj
   have hik:i+(n+1-i)=n+1:=by omega
   have hG:=grownCap_ge w (n+1) c 90
   have hGm:=grownCap_le_maxLen w (n+1) c 90 (by unfold maxLen; omega)
   obtain ⟨G,hGe⟩:∃ G,grownCap w (n+1) c 90=G:=⟨_,rfl⟩
   have hrz:∀ ty,(Builtin.append_ #[86,3] ty #[.slice (some ⟨b,o,none⟩) i c,.int .i64 ((n:Int)+1-(i:Int))]).run Tryz.prog w=.ok (.slice (some ⟨w.heap.size,0,none⟩) (n+1) G) (w.drew.alloc (.cells ((X.take (i*3)).toArray++Builtin.zeroCells #[.int .i64 0,.int .i64 0,.int .i64 0] (n+1-i)++Builtin.zeroCells #[.int .i64 0,.int .i64 0,.int .i64 0] (G-(n+1))) 90)):=fun ty =>by
    have h:=Lib.run_append_grow_zeros w 86 3 ty 90 inf _ .i64 .i64 Tryz.underlying86 Tryz.underlying3 f1 f2 (some ⟨b,o,none⟩) i c (X.take (i*3)) hold (n+1-i) (by omega) (by omega) (by omega) (by omega) (by rw [f4]; omega) (by rw [f4,hik]; exact growslice_fits (by omega) (by omega))
    rw [hik,hGe] at h
    rw [show ((n:Int)+1-(i:Int))=((n+1-i:Nat):Int) by omega]
    exact h
   rw [hGe] at hG hGm
   generalize hR:(X.take (i*3)).toArray++Builtin.zeroCells #[.int .i64 0,.int .i64 0,.int .i64 0] (n+1-i)++Builtin.zeroCells #[.int .i64 0,.int .i64 0,.int .i64 0] (G-(n+1))=ROW at hrz
   have hRs:ROW.toList.length=G*3:=by
    rw [← hR]
    simp [size_zeroCells,hXl]
    omega
   have hRt:ROW.toList.take (i*3)=X.take (i*3):=by
    rw [← hR]
    simp only [Array.toList_append,List.append_assoc]
    rw [List.take_append_of_le_length (by rw [hXt]; exact Nat.le_refl _),List.take_of_length_le (by rw [hXt]; exact Nat.le_refl _)]
   have s0:=sd.fresh (cs:=ROW) (T:=90) (by simpa using hl)
   have b0:=adK hb.drew (by simpa using hl) (.cells ROW 90)
   have l0:B≤(w.drew.alloc (.cells ROW 90)).heap.size:=by simpa using Nat.le_succ_of_le hl
   obtain ⟨W1,g1,g2⟩:=acz (P:=Tryz.prog) (W:=W) (b:=w.heap.size) (o:=0) (o':=i*3) Y 0 (i*3) ROW.toList _ _ (by omega) hY (by rw [hRs,hY3]; omega) s0 b0 l0
   have sd1:=g2.2.2.below (w':=W1.drew) ((Below.refl _ _).drew)
   obtain ⟨W2,g3,g4⟩:=acz (P:=Tryz.prog) (W:=W) (b:=w.heap.size) (o:=0) (o':=(i+1)*3) (X.drop (i*3)) 0 ((i+1)*3) _ W1.drew _ (by omega) hXda (by simp only [List.length_append,List.length_take,List.length_drop,hRs,hY3,hXl]; omega) sd1 g2.1.drew (by simpa using g2.2.1)
   refine (aB2 b o n c i vb vo c2 w.heap.size G (goInt 1) (goInt ((n-i:Nat):Int)) w _ W1 W2 hlt hnc (by omega) (by unfold maxLen at hcm; omega) (by omega) hG (by unfold maxLen at hGm; omega) hrz (fun ty =>?_) (fun ty =>?_)).mono fun e w2 ⟨he,hw⟩ =>?_
   ·refine aoT (n:=1) (sLen:=1) (dLen:=n+1-i) (by simp only [Nat.min_def]; split<;>omega) (fun j u hj =>?_) (by omega) g1
    rw [abL]
    exact (s0.drop.drop.cell hj).2.1
   ·refine aoT (n:=n-i) (sLen:=n-i) (dLen:=n+1-(i+1)) (by simp only [Nat.min_def]; split<;>omega) (fun j u hj =>?_) hXd g3
    rw [abL,Nat.add_assoc]
    refine (sd1.drop.cell ?_).2.1
    rw [List.getElem?_drop] at hj
    rw [List.getElem?_append_left (List.getElem?_eq_some_iff.1 hj).1]
    exact hj
   ·subst hw
    refine ⟨some ⟨w.heap.size,0,none⟩,G,he,g4.1,g4.2.1,?_⟩
    have s3:=g4.2.2
    refine s3.imp fun h =>fun hh =>?_
    obtain ⟨a1,a2,a3,a4,a5,a6⟩:=hh
    obtain ⟨_,_,b1,b2,_,b3⟩:=a6
    obtain ⟨_,_,b1',b2',_,b3'⟩:=b3
    have b4:abC L a2:=by
     have h1:abC ([]++L) _:=aal.2 ⟨_,_,b1',b2',trivial,b3'⟩
     have:abC ([]++L) a2:=aal.2 ⟨_,_,b1,b2,trivial,h1⟩
     exact this
    refine ⟨a1,a2,a3,a4,⟨?_,hG,hGm,.inr ⟨w.heap.size,0,(ROW.toList.take (i*3)++Y++ROW.toList.drop (i*3+Y.length)).drop ((n+1)*3),rfl,?_,?_⟩⟩,b4⟩
    ·simp only [List.length_append,List.length_take,List.length_drop,hXl,hY3]; omega
    ·simp only [List.length_append,List.length_take,List.length_drop,hRs,hY3]; omega
    ·have e1:(ROW.toList.take (i*3)++Y++ROW.toList.drop (i*3+Y.length)).take ((i+1)*3)=X.take (i*3)++Y:=by
      have l1:(ROW.toList.take (i*3)++Y).length=(i+1)*3:=by rw [List.length_append,List.length_take,hRs,hY3]; omega
      rw [← l1,List.take_left,hRt]
     have e2:(i+1)*3+(X.drop (i*3)).length=(n+1)*3:=by rw [hXd]; omega
     rw [e1,e2] at a5
     exact a5
end
theorem awe {K:KT} {B:Nat} {w:World} {c:Nat} {xs:List (K.T c)} {v:Value} {L:List aad} (hc:K.pl c=true) (s:Sat B w (pcS K (.row c xs) v::L)):∃ A cap,v=.slice A xs.length cap∧Sat B w (aef A xs.length cap (K.sz c) (xs.flatMap (aeR K c))::L):=by
 obtain ⟨h,Hh,k1,k2,a,e,h1,hL⟩:=s
 rw [aaB] at h1
 obtain ⟨A,cap,rfl,hr⟩:=h1
 rw [acL] at hr
 obtain ⟨vss,q1,q2,a',e',g1,g2⟩:=hr
 have g3:abC (abY K (pcS K) c xs vss++[]) q2:=by simpa using g2
 obtain ⟨rfl,_⟩:=am5 hc g3
 rw [← List.flatMap_def] at g1
 refine ⟨A,cap,rfl,h,Hh,k1,k2,a,e,?_,hL⟩
 obtain ⟨r1,r2,r3,r4⟩:=g1
 refine ⟨r1,r2,r3,r4.imp id ?_⟩
 rintro ⟨b,o,spare,hA,hs,hp⟩
 refine ⟨b,o,spare,hA,hs,fun i v hi =>?_⟩
 rw [e']; unfold adf; rw [hp i v hi]
def ajH (xs:List KyV) (i:Int) (ys:List KyV):Option ((List KyV×Unit)×Unit):=if ((0≤i∧i≤(xs.length:Int))∧xs.length≤1000000)∧ys.length=1 then some ((xs.take i.toNat++ys++xs.drop i.toNat,()),()) else none
noncomputable abbrev ald:Con SR1:=⟨67,[.sh (.row 68),.sh sI_,.sh (.row 68)],[.sh (.row 68)],fun x =>ajH x.1 x.2.1 x.2.2.1⟩
theorem azC {α:Type} {enc:α→List Value} (h:∀ x,(enc x).length=3):∀ (xs:List α) (i:Nat),(xs.flatMap enc).take (i*3)=(xs.take i).flatMap enc
 | xs,0 =>by simp
 | [],i+1 =>by simp
 | x::xs,i+1 =>by
  rw [List.take_succ_cons,List.flatMap_cons,List.flatMap_cons,← azC h xs i,List.take_append,h x,List.take_of_length_le (by rw [h x]; omega),show (i+1)*3-3=i*3 by omega]
theorem azD {α:Type} {enc:α→List Value} (h:∀ x,(enc x).length=3):∀ (xs:List α) (i:Nat),(xs.flatMap enc).drop (i*3)=(xs.drop i).flatMap enc
 | xs,0 =>by simp
 | [],i+1 =>by simp
 | x::xs,i+1 =>by
  rw [List.drop_succ_cons,List.flatMap_cons,← azD h xs i,List.drop_append,h x,List.drop_eq_nil_of_le (by rw [h x]; omega),List.nil_append,show (i+1)*3-3=i*3 by omega]
theorem auj {α:Type} {enc:α→List Value} (h:∀ x,(enc x).all acK=true) (xs:List α):(xs.flatMap enc).all acK=true:=List.all_eq_true.2 fun u hu =>by
 obtain ⟨x,_,hx⟩:=List.mem_flatMap.1 hu
 exact List.all_eq_true.1 (h x) u hx
abbrev kyE:SR1.kt.T 68→List Value:=aeR SR1.kt 68
theorem ky3:∀ x,(kyE x).length=3:=fun _ =>rfl
theorem kyS:∀ x,(kyE x).all acK=true:=fun _ =>rfl
theorem aB0 {B:Nat} {W w:World} {F:aad} {xs ys:List (SR1.kt.T 68)} {j:Nat} {v0 v1 v2:Value} (hb:Below B W w) (hB:B≤w.heap.size) (hj:j≤xs.length) (hxl:xs.length≤1000000) (hyl:ys.length=1)
  (hs:Sat B w (pcS SR1.kt (.row 68 xs) v0::pcS SR1.kt (.i .i64 (j:Int)) v1::pcS SR1.kt (.row 68 ys) v2::[F])) :
  Calls Tryz.prog 67 #[v0,v1,v2] w fun e w' =>∃ u,e=.returned u∧Cls B W (pcS SR1.kt (.row 68 (xs.take j++ys++xs.drop j)) u::[F]) w':=by
 obtain ⟨A,c,rfl,s1⟩:=awe rfl hs
 have hv1:v1=.int .i64 j:=by
  obtain ⟨_,_,k1,k2,_,_,h1,_⟩:=s1.drop
  exact aaB.1 h1
 subst hv1
 have s2:Sat B w (pcS SR1.kt (.row 68 ys) v2::aef A xs.length c 3 (List.flatMap kyE xs)::[F]):=by
  obtain ⟨h,H,k1,k2,a,e,h1,hL⟩:=s1
  have hL':abC ([pcS SR1.kt (.i .i64 (j:Int)) (.int .i64 j)]++[pcS SR1.kt (.row 68 ys) v2,F]) k2:=hL
  exact (show Sat B w (aef A xs.length c 3 (List.flatMap kyE xs)::pcS SR1.kt (.row 68 ys) v2::[F]) from ⟨h,H,k1,k2,a,e,h1,aeW hL'⟩).perm (List.Perm.swap ..)
 obtain ⟨A2,c2,rfl,s3⟩:=awe rfl s2
 have s4:=s3.perm (List.Perm.swap ..)
 rw [hyl] at s4 ⊢
 have hk:=aHm (W:=W) (L:=[F]) (i:=j) s4 hb hB (auj kyS xs) (auj kyS ys) hj hxl
 refine hk.mono fun e w' ⟨A',c',he,h1,h2,h3⟩ =>?_
 have hlen:(xs.take j++ys++xs.drop j).length=xs.length+1:=by simp only [List.length_append,List.length_take,List.length_drop,hyl]; omega
 refine ⟨_,he,h1,h2,?_⟩
 have e1:(List.flatMap kyE xs).take (j*3)++List.flatMap kyE ys++(List.flatMap kyE xs).drop (j*3)=List.flatMap kyE (xs.take j++ys++xs.drop j):=by
  rw [azC ky3,azD ky3,List.flatMap_append,List.flatMap_append]
 rw [e1,← hlen] at h3
 have:=aih (S:=SR1) (c:=68) (fun _ =>rfl) h3
 rw [hlen] at this
 exact this
variable [Tb]
theorem aub:CO Tryz.prog ald:=fun x out hx B W hg vs F w hw =>by
 obtain ⟨hb,hB,hs⟩:=hw
 obtain ⟨xs,i,ys,u⟩:=x
 have hx:ajH xs i ys=some out:=hx
 unfold ajH at hx
 split at hx
 case isFalse =>cases hx
 rename_i hn
 obtain ⟨⟨⟨hi0,hi1⟩,hxl⟩,hyl⟩:=hn
 cases hx
 show ae7 Tryz.prog ald.f _ w _
 rw [adc rfl]
 rcases vs with _ | ⟨v0,_ | ⟨v1,_ | ⟨v2,_ | ⟨v3,vs⟩⟩⟩⟩
 ·exact aaA hs
 ·exact aaA (show Sat B w (_::(fun _ =>False)::_) from hs).drop
 ·exact aaA (show Sat B w (_::_::(fun _ =>False)::_) from hs).drop.drop
 ·obtain ⟨j,rfl⟩:∃ j:Nat,i=(j:Int):=⟨i.toNat,(Int.toNat_of_nonneg hi0).symm⟩
  exact (aB0 hb hB (Int.ofNat_le.1 hi1) hxl hyl hs).mono fun e w' ⟨u,he,hc⟩ =>⟨[u],he,hc⟩
 ·exact aaA (show Sat B w (_::_::_::(fun _ =>False)::_) from hs).drop.drop.drop
end
section
open Go Go.RowKit
set_option maxRecDepth 100000
variable [Tb]
abbrev agf (xs:List KyV) (i:Int):KyV:=atL (dfR 68:TR 68) xs i
noncomputable def aoH (b:List Int):Option ((List EntV×Unit)×(Unit)) :=
 (lpF (σ:=List EntV×Int×Unit) (β:=List EntV×Int×Unit) (fun self3 x1 =>
 if (wi (x1.2.1+1))<((b.length:Nat):Int) then
 if ((x1.1.length:Nat):Int)<65536 then
 if 0≤x1.2.1∧x1.2.1<((b.length:Nat):Int) then
 if 0≤wi (x1.2.1+1)∧wi (x1.2.1+1)<((b.length:Nat):Int) then
 if (ajd b (wi (x1.2.1+1)))=(ajd b (wi (x1.2.1+1))) then
 if (ajd b x1.2.1)=(ajd b x1.2.1) then
 if (Int.tmod (wi (ajd b x1.2.1)) 4)=1 then
 if (((x1.1.length+([(⟨(Int.tmod (wi (ajd b x1.2.1)) 4),0⟩:EntV)]:List EntV).length:Nat)):Int)<1000000000000 then
 self3 (x1.1++([(⟨(Int.tmod (wi (ajd b x1.2.1)) 4),0⟩:EntV)]),wi (x1.2.1+2),())
 else none
 else
 if (Int.tmod (wi (ajd b x1.2.1)) 4)=3 then
 if (((x1.1.length+([(⟨(Int.tmod (wi (ajd b x1.2.1)) 4),0⟩:EntV)]:List EntV).length:Nat)):Int)<1000000000000 then
 self3 (x1.1++([(⟨(Int.tmod (wi (ajd b x1.2.1)) 4),0⟩:EntV)]),wi (x1.2.1+2),())
 else none
 else
 if (((x1.1.length+([(⟨(Int.tmod (wi (ajd b x1.2.1)) 4),wi (ajd b (wi (x1.2.1+1)))⟩:EntV)]:List EntV).length:Nat)):Int)<1000000000000 then
 self3 (x1.1++([(⟨(Int.tmod (wi (ajd b x1.2.1)) 4),wi (ajd b (wi (x1.2.1+1)))⟩:EntV)]),wi (x1.2.1+2),())
 else none
 else none
 else none
 else none
 else none
 else
 some (x1.1,x1.2.1,())
 else
 some (x1.1,x1.2.1,())
 ) 18446744073709551616 ([],0,())).bind fun z2 =>
 some ((z2.1,()),())
noncomputable abbrev aq0:Con SR1:=⟨32,[.sh (.ro 17)],[.sh (.row 5)],fun x =>aoH x.1⟩
theorem au6:CO Tryz.prog aq0:=aak aaj Tryz.func32 [] trivial [] trivial (fun _ =>[]) [(3,.loop [.rg 3 (.row 5),.rg 4 sI_] 18446744073709551616 0)] fun x =>by kernel_rfl
noncomputable def ag2 (b:List Int) (n:Int):Option ((List EntV×Unit)×(Unit)) :=
 (aoH b).bind fun r1 =>
 if n<((r1.1.1.length:Nat):Int) then
 if 0≤n∧n≤((r1.1.1.length:Nat):Int) then
 some ((r1.1.1.take (n:Int).toNat,()),())
 else none
 else
 some ((r1.1.1,()),())
noncomputable abbrev ajG:Con SR1:=⟨18,[.sh (.ro 17),.sh sI_],[.sh (.row 5)],fun x =>ag2 x.1 x.2.1⟩
theorem akg:CO Tryz.prog ajG:=aak aaj Tryz.func18 [aq0] ⟨au6,trivial⟩ [] trivial (fun _ =>[]) [] fun x =>by kernel_rfl
noncomputable def amt (y0:Int):Option ((Bool×Unit)×(Unit)) :=
 some ((decide (y0≠y0),()),())
noncomputable abbrev ark:Con SR1:=⟨82,[.sh sI_],[.sh .b],fun x =>amt x.1⟩
theorem avK:CO Tryz.prog ark:=aak aaj Tryz.func82 [] trivial [] trivial (fun _ =>[]) [] fun x =>by kernel_rfl
noncomputable def agK (y0:Int) (y1:Int):Option ((Int×Unit)×(Unit)) :=
 (amt y0).bind fun r1 =>
 (amt y1).bind fun r2 =>
 if r1.1.1=true then
 if r2.1.1=true then
 some ((0,()),())
 else
 some (((-1),()),())
 else
 if r2.1.1=true then
 some ((1,()),())
 else
 if y0<y1 then
 some (((-1),()),())
 else
 if y1<y0 then
 some ((1,()),())
 else
 some ((0,()),())
noncomputable abbrev anZ:Con SR1:=⟨74,[.sh sI_,.sh sI_],[.sh sI_],fun x =>agK x.1 x.2.1⟩
theorem asM:CO Tryz.prog anZ:=aak aaj Tryz.func74 [ark] ⟨avK,trivial⟩ [] trivial (fun _ =>[]) [] fun x =>by kernel_rfl
noncomputable def aCB (y0:List Int):Option ((Int×Unit)×(Unit)) :=
 (lpF (σ:=Int×Unit) (β:=(Int×Unit)⊕((Int×Unit)×(Unit))) (fun self3 x1 =>
 if x1.1<((y0.length:Nat):Int) then
 if 0≤x1.1∧x1.1<((y0.length:Nat):Int) then
 if (ahz y0 x1.1)≠0 then
 Option.map Sum.inr (
 some ((ahz y0 x1.1,()),())
 )
 else
 self3 (wi (x1.1+1),())
 else none
 else
 some (Sum.inl (x1.1,()))
 ) 18446744073709551616 (0,())).bind fun z2 =>match z2 with
 | .inr o4 =>some o4
 | .inl z2 =>
 some ((0,()),())
noncomputable abbrev az6:Con SR1:=⟨73,[.sh (.ro 1)],[.sh sI_],fun x =>aCB x.1⟩
theorem aCz:CO Tryz.prog az6:=aak aaj Tryz.func73 [] trivial [] trivial (fun _ =>[]) [(3,.loopR [.rg 8 sI_] 18446744073709551616 0)] fun x =>by kernel_rfl
noncomputable def ad7 (y0:KyV) (y1:KyV):Option ((Int×Unit)×(Unit)) :=
 (agK y0.deadline y1.deadline).bind fun r1 =>
 if y1.task=y1.task then
 if y0.task=y0.task then
 if y1.arrival=y1.arrival then
 if y0.arrival=y0.arrival then
 (agK y0.arrival y1.arrival).bind fun r2 =>
 if y1.task=y1.task then
 if y0.task=y0.task then
 (agK y0.task y1.task).bind fun r3 =>
 (aCB ([r1.1.1,r2.1.1,r3.1.1])).bind fun r4 =>
 some ((r4.1.1,()),())
 else none
 else none
 else none
 else none
 else none
 else none
noncomputable abbrev akN:Con SR1:=⟨66,[.val 68,.val 68],[.sh sI_],fun x =>ad7 x.1 x.2.1⟩
theorem apx:CO Tryz.prog akN:=aak aaj Tryz.func66 [anZ,az6] ⟨asM,aCz,trivial⟩ [] trivial (fun _ =>[]) [] fun x =>by kernel_rfl
noncomputable def aaH (y0:CtP) (y1:Cfg) (y2:Ev):Option ((Bool×Unit)×(CtP×Unit)) :=
 if y2.kind=1 then
 ((
 if y2.other<0 then
 some (true,y0,())
 else
 if ((y1.subs.length:Nat):Int)≤y2.other then
 some (true,y0,())
 else
 some (decide (y1.heap≤((y0.keys.length:Nat):Int)),y0,())
 ):Option (Bool×CtP×Unit)).bind fun z1 =>
 if z1.1=true then
 some ((false,()),(z1.2.1,()))
 else
 if 0≤y2.other∧y2.other<((y1.subs.length:Nat):Int) then
 if y2.task=y2.task then
 if z1.2.1.count=z1.2.1.count then
 if ((abf y1.subs y2.other).deadline)=((abf y1.subs y2.other).deadline) then
 if y2.other=y2.other then
 ((
 (lpF (σ:=Int×Int×Unit) (β:=Int×Int×Unit) (fun self4 x2 =>
 if x2.1<x2.2.1 then
 if 0≤wi (Int.fdiv (wu (wi (x2.1+x2.2.1))) (2 ^ min (1:Int).toNat IntKind.u64.bits))∧wi (Int.fdiv (wu (wi (x2.1+x2.2.1))) (2 ^ min (1:Int).toNat IntKind.u64.bits))<((z1.2.1.keys.length:Nat):Int) then
 (ad7 (agf z1.2.1.keys (wi (Int.fdiv (wu (wi (x2.1+x2.2.1))) (2 ^ min (1:Int).toNat IntKind.u64.bits)))) (⟨(abf y1.subs y2.other).deadline,z1.2.1.count,y2.task⟩:KyV)).bind fun r5 =>
 if r5.1.1<0 then
 self4 (wi ((wi (Int.fdiv (wu (wi (x2.1+x2.2.1))) (2 ^ min (1:Int).toNat IntKind.u64.bits)))+1),x2.2.1,())
 else
 self4 (x2.1,wi (Int.fdiv (wu (wi (x2.1+x2.2.1))) (2 ^ min (1:Int).toNat IntKind.u64.bits)),())
 else none
 else
 some (x2.1,x2.2.1,())
 ) 18446744073709551616 (0,((z1.2.1.keys.length:Nat):Int),())).bind fun z3 =>
 if z3.1<((z1.2.1.keys.length:Nat):Int) then
 if 0≤z3.1∧z3.1<((z1.2.1.keys.length:Nat):Int) then
 (ad7 (agf z1.2.1.keys z3.1) (⟨(abf y1.subs y2.other).deadline,z1.2.1.count,y2.task⟩:KyV)).bind fun r6 =>
 some (z3.1,())
 else none
 else
 some (z3.1,())
 ):Option (Int×Unit)).bind fun z7 =>
 (ajH z1.2.1.keys z7.1 ([(⟨(abf y1.subs y2.other).deadline,z1.2.1.count,y2.task⟩:KyV)])).bind fun r8 =>
 some ((true,()),((⟨r8.1.1,wi (z1.2.1.count+1)⟩:CtP),()))
 else none
 else none
 else none
 else none
 else none
 else
 if y2.kind=13 then
 ((
 if ((y0.keys.length:Nat):Int)=0 then
 some (true,y0,())
 else
 if 0≤(0:Int)∧(0:Int)<((y0.keys.length:Nat):Int) then
 some (decide (((agf y0.keys 0).task)≠y2.task),y0,())
 else none
 ):Option (Bool×CtP×Unit)).bind fun z9 =>
 if z9.1=true then
 some ((false,()),(z9.2.1,()))
 else
 if 0≤(1:Int)∧(1:Int)≤((z9.2.1.keys.length:Nat):Int) then
 some ((true,()),((⟨z9.2.1.keys.drop ((1:Int):Int).toNat,z9.2.1.count⟩:CtP),()))
 else none
 else
 if y2.kind=2 then
 if y2.level≠1 then
 some ((true,()),(y0,()))
 else
 some ((decide (((y0.keys.length:Nat):Int)=y1.heap),()),(y0,()))
 else
 some ((true,()),(y0,()))
noncomputable abbrev agV:Con SR1:=⟨54,[.ref 69,.val 13,.val 2],[.sh .b],fun x =>aaH x.1 x.2.1 x.2.2.1⟩
noncomputable def aky:List (Nat×Func):=[(65,Tryz.f65)]
theorem akz:CO Tryz.prog agV:=aak aaj Tryz.func54 [akN,ald] ⟨apx,aub,trivial⟩ aky ⟨Tryz.func65,trivial⟩ (fun f =>(get [(65,[(3,.loop [.rg 9 sI_,.rg 10 sI_] 18446744073709551616 0)])] f).getD []) [(4,.cut [.rg 34 .b,.ob 0 69] [10,11,17,18]),(7,.cut [.rg 8 sI_] [0,10,11,17,18,36,37,44]),(11,.cut [.rg 95 .b,.ob 0 69] [10,11,17,18])] fun x =>by kernel_rfl
noncomputable def ajC (y0:Cfg) (y1:List Ev):Option ((Int×CtP×Unit)×(Unit)) :=
 (lpF (σ:=Int×CtP×Unit) (β:=(Int×CtP×Unit)⊕((Int×CtP×Unit)×(Unit))) (fun self3 x1 =>
 if x1.1<((y1.length:Nat):Int) then
 if 0≤x1.1∧x1.1<((y1.length:Nat):Int) then
 (aaH x1.2.1 y0 (axL y1 x1.1)).bind fun r4 =>
 if (!r4.1.1)=true then
 Option.map Sum.inr (
 some ((x1.1,r4.2.1,()),())
 )
 else
 self3 (wi (x1.1+1),r4.2.1,())
 else none
 else
 some (Sum.inl (x1.1,x1.2.1,()))
 ) 18446744073709551616 (0,(⟨[],0⟩:CtP),())).bind fun z2 =>match z2 with
 | .inr o5 =>some o5
 | .inl z2 =>
 some ((((y1.length:Nat):Int),z2.2.1,()),())
noncomputable abbrev ak9:Con SR1:=⟨27,[.val 13,.sh (.ro 2)],[.sh sI_,.sh (.own 69)],fun x =>ajC x.1 x.2.1⟩
theorem anU:CO Tryz.prog ak9:=aak aaj Tryz.func27 [agV] ⟨akz,trivial⟩ [] trivial (fun _ =>[]) [(3,.loopR [.rg 13 sI_,.rg 6 (.own 69)] 18446744073709551616 0)] fun x =>by kernel_rfl
noncomputable def akd (y0:Cfg) (y1:List Ev):Option ((Int×Int×Unit)×(Unit)) :=
 (aiJ y0).bind fun r1 =>
 if r1.1.1≠0 then
 some ((0,r1.1.1,()),())
 else
 (ajC y0 y1).bind fun r2 =>
 if r2.1.1<((y1.length:Nat):Int) then
 some ((r2.1.1,6,()),())
 else
 some ((r2.1.1,0,()),())
noncomputable abbrev afN:Con SR1:=⟨11,[.val 13,.sh (.ro 2)],[.sh sI_,.sh sI_],fun x =>akd x.1 x.2.1⟩
theorem agC:CO Tryz.prog afN:=aak aaj Tryz.func11 [akp,ak9] ⟨alm,anU,trivial⟩ [] trivial (fun _ =>[]) [] fun x =>by kernel_rfl
noncomputable def al2 (y0:Cfg) (y1:List Ev):Option ((List Int×Unit)×(Unit)) :=
 (aiJ y0).bind fun r1 =>
 if r1.1.1≠0 then
 some (([],()),())
 else
 (ajC y0 y1).bind fun r2 =>
 (lpF (σ:=List Int×Int×Unit) (β:=List Int×Int×Unit) (fun self5 x3 =>
 if x3.2.1<((r2.1.2.1.keys.length:Nat):Int) then
 if 0≤x3.2.1∧x3.2.1<((r2.1.2.1.keys.length:Nat):Int) then
 if (((x3.1.length+([(agf r2.1.2.1.keys x3.2.1).task]:List Int).length:Nat)):Int)<1000000000000 then
 self5 (x3.1++([(agf r2.1.2.1.keys x3.2.1).task]),wi (x3.2.1+1),())
 else none
 else none
 else
 some (x3.1,x3.2.1,())
 ) 18446744073709551616 ([],0,())).bind fun z4 =>
 some ((z4.1,()),())
noncomputable abbrev ag0:Con SR1:=⟨12,[.val 13,.sh (.ro 2)],[.sh (.row 1)],fun x =>al2 x.1 x.2.1⟩
theorem ahg:CO Tryz.prog ag0:=aak aaj Tryz.func12 [akp,ak9] ⟨alm,anU,trivial⟩ [] trivial (fun _ =>[]) [(6,.loop [.rg 7 (.row 1),.rg 24 sI_] 18446744073709551616 0)] fun x =>by kernel_rfl
noncomputable def acC (y0:Int):Option ((EntV×Unit)×(Unit)) :=
 some (((⟨0,y0⟩:EntV),()),())
noncomputable abbrev adB:Con SR1:=⟨22,[.sh sI_],[.val 5],fun x =>acC x.1⟩
theorem aem:CO Tryz.prog adB:=aak aaj Tryz.func22 [] trivial [] trivial (fun _ =>[]) [] fun x =>by kernel_rfl
noncomputable def aaI (y0:Cfg):Option ((List EntV×Unit)×(Unit)) :=
 (lpF (σ:=List EntV×Int×Unit) (β:=List EntV×Int×Unit) (fun self3 x1 =>
 if x1.2.1<(wi (40*((y0.subs.length:Nat):Int))) then
 (acC y0.workers).bind fun r4 =>
 if (((x1.1.length+([r4.1.1]:List EntV).length:Nat)):Int)<1000000000000 then
 self3 (x1.1++([r4.1.1]),wi (x1.2.1+1),())
 else none
 else
 some (x1.1,x1.2.1,())
 ) 18446744073709551616 ([],0,())).bind fun z2 =>
 some ((z2.1,()),())
noncomputable abbrev abr:Con SR1:=⟨17,[.val 13],[.sh (.row 5)],fun x =>aaI x.1⟩
theorem abW:CO Tryz.prog abr:=aak aaj Tryz.func17 [adB] ⟨aem,trivial⟩ [] trivial (fun _ =>[]) [(3,.loop [.rg 3 (.row 5),.rg 4 sI_] 18446744073709551616 0)] fun x =>by kernel_rfl
noncomputable def ac6 (y0:Int) (y1:Int):Option ((Int×Unit)×(Unit)) :=
 if y1<1 then
 some ((0,()),())
 else
 if y1≠0 then
 if (Int.tmod y0 y1)<0 then
 if y1≠0 then
 some ((wi ((Int.tmod y0 y1)+y1),()),())
 else none
 else
 if y1≠0 then
 some (((Int.tmod y0 y1),()),())
 else none
 else none
noncomputable abbrev ael:Con SR1:=⟨49,[.sh sI_,.sh sI_],[.sh sI_],fun x =>ac6 x.1 x.2.1⟩
theorem afD:CO Tryz.prog ael:=aak aaj Tryz.func49 [] trivial [] trivial (fun _ =>[]) [] fun x =>by kernel_rfl
noncomputable def aaQ (y0:List Int) (y1:Int) (y2:Int):Option ((Int×Unit)×(Unit)) :=
 if ((y0.length:Nat):Int)=0 then
 some ((0,()),())
 else
 if ((y0.length:Nat):Int)≠0 then
 if 0≤(Int.tmod y1 ((y0.length:Nat):Int))∧(Int.tmod y1 ((y0.length:Nat):Int))<((y0.length:Nat):Int) then
 if ((y0.length:Nat):Int)≠0 then
 if (wi (1+(Int.tmod (wi (Int.tdiv y1 ((y0.length:Nat):Int))) 7)))≠0 then
 (ac6 (wi (Int.tdiv (ahz y0 (Int.tmod y1 ((y0.length:Nat):Int))) (wi (1+(Int.tmod (wi (Int.tdiv y1 ((y0.length:Nat):Int))) 7))))) y2).bind fun r1 =>
 some ((r1.1.1,()),())
 else none
 else none
 else none
 else none
noncomputable abbrev afF:Con SR1:=⟨34,[.sh (.ro 1),.sh sI_,.sh sI_],[.sh sI_],fun x =>aaQ x.1 x.2.1 x.2.2.1⟩
theorem ai7:CO Tryz.prog afF:=aak aaj Tryz.func34 [ael] ⟨afD,trivial⟩ [] trivial (fun _ =>[]) [] fun x =>by kernel_rfl
noncomputable def ab0 (y0:List EntV) (y1:EntV) (y2:Int):Option ((List EntV×Unit)×(Unit)) :=
 if 0≤y2∧y2≤((y0.length:Nat):Int) then
 if (((([]:List EntV).length+(y0.take (y2:Int).toNat).length:Nat)):Int)<1000000000000 then
 if ((((([])++(y0.take (y2:Int).toNat)).length+([y1]:List EntV).length:Nat)):Int)<1000000000000 then
 if 0≤y2∧y2≤((y0.length:Nat):Int) then
 if (((((([])++(y0.take (y2:Int).toNat))++([y1])).length+(y0.drop (y2:Int).toNat).length:Nat)):Int)<1000000000000 then
 some ((((([])++(y0.take (y2:Int).toNat))++([y1]))++(y0.drop (y2:Int).toNat),()),())
 else none
 else none
 else none
 else none
 else none
noncomputable abbrev afG:Con SR1:=⟨33,[.sh (.ro 5),.val 5,.sh sI_],[.sh (.row 5)],fun x =>ab0 x.1 x.2.1 x.2.2.1⟩
theorem ai8:CO Tryz.prog afG:=aak aaj Tryz.func33 [] trivial [] trivial (fun _ =>[]) [] fun x =>by kernel_rfl
noncomputable def adT (y0:List Int) (y1:Int) (y2:Int):Option ((List EntV×Unit)×(Unit)) :=
 (lpF (σ:=List EntV×Int×Unit) (β:=List EntV×Int×Unit) (fun self3 x1 =>
 if x1.2.1<y2 then
 (acC x1.2.1).bind fun r4 =>
 (aaQ y0 (wi (y1+x1.2.1)) (wi (x1.2.1+1))).bind fun r5 =>
 (ab0 x1.1 r4.1.1 r5.1.1).bind fun r6 =>
 self3 (r6.1.1,wi (x1.2.1+1),())
 else
 some (x1.1,x1.2.1,())
 ) 18446744073709551616 ([],0,())).bind fun z2 =>
 (aaQ y0 (wi (y1+y2)) (wi (y2+1))).bind fun r7 =>
 (ab0 z2.1 (⟨1,0⟩:EntV) r7.1.1).bind fun r8 =>
 (aaQ y0 (wi ((wi (y1+y2))+1)) 3).bind fun r9 =>
 (lpF (σ:=List EntV×Int×Unit) (β:=List EntV×Int×Unit) (fun self12 x10 =>
 if 0<x10.2.1 then
 (aaQ y0 (wi ((wi (y1+y2))+x10.2.1)) y2).bind fun r13 =>
 (acC r13.1.1).bind fun r14 =>
 (aaQ y0 (wi (y1+x10.2.1)) (wi (((x10.1.length:Nat):Int)+1))).bind fun r15 =>
 (ab0 x10.1 r14.1.1 r15.1.1).bind fun r16 =>
 self12 (r16.1.1,wi (x10.2.1-1),())
 else
 some (x10.1,x10.2.1,())
 ) 18446744073709551616 (r8.1.1,r9.1.1,())).bind fun z11 =>
 some ((z11.1,()),())
noncomputable abbrev acs:Con SR1:=⟨19,[.sh (.ro 1),.sh sI_,.sh sI_],[.sh (.row 5)],fun x =>adT x.1 x.2.1 x.2.2.1⟩
theorem ac7:CO Tryz.prog acs:=aak aaj Tryz.func19 [adB,afF,afG] ⟨aem,ai7,ai8,trivial⟩ [] trivial (fun _ =>[]) [(3,.loop [.rg 7 (.row 5),.rg 8 sI_] 18446744073709551616 0),(8,.loop [.rg 7 (.row 5),.rg 9 sI_] 18446744073709551616 2)] fun x =>by kernel_rfl
noncomputable def aek (y0:Cfg):Option ((Int×Unit)×(Unit)) :=
 some ((wi ((wi ((wi (4+y0.heap))+y0.classes))+(wi (2*y0.workers))),()),())
noncomputable abbrev afa:Con SR1:=⟨28,[.val 13],[.sh sI_],fun x =>aek x.1⟩
theorem aic:CO Tryz.prog afa:=aak aaj Tryz.func28 [] trivial [] trivial (fun _ =>[]) [] fun x =>by kernel_rfl
noncomputable def adA (y0:Cfg):Option ((Int×Unit)×(Unit)) :=
 (aek y0).bind fun r1 =>
 if y0.tasks=y0.tasks then
 if y0.deque=y0.deque then
 if y0.levels=y0.levels then
 if y0.workers=y0.workers then
 some ((wi ((wi (r1.1.1+(wi ((wi (y0.workers*y0.levels))*(wi (2+y0.deque))))))+(wi (5*y0.tasks))),()),())
 else none
 else none
 else none
 else none
noncomputable abbrev aca:Con SR1:=⟨13,[.val 13],[.sh sI_],fun x =>adA x.1⟩
theorem acW:CO Tryz.prog aca:=aak aaj Tryz.func13 [afa] ⟨aic,trivial⟩ [] trivial (fun _ =>[]) [] fun x =>by kernel_rfl
noncomputable def aeF (y0:Int) (y1:Int) (y2:Int) (y3:Int):Option ((Int×Unit)×(Unit)) :=
 if y1<0 then
 some (((-1),()),())
 else
 if y2≤y1 then
 some (((-1),()),())
 else
 some ((wi (y0+(wi (y1*y3))),()),())
noncomputable abbrev afC:Con SR1:=⟨30,[.sh sI_,.sh sI_,.sh sI_,.sh sI_],[.sh sI_],fun x =>aeF x.1 x.2.1 x.2.2.1 x.2.2.2.1⟩
theorem ai5:CO Tryz.prog afC:=aak aaj Tryz.func30 [] trivial [] trivial (fun _ =>[]) [] fun x =>by kernel_rfl
noncomputable def ac5 (y0:Cfg) (y1:Int):Option ((Int×Unit)×(Unit)) :=
 (aeF 4 y1 y0.heap 1).bind fun r1 =>
 some ((r1.1.1,()),())
noncomputable abbrev acr:Con SR1:=⟨15,[.val 13,.sh sI_],[.sh sI_],fun x =>ac5 x.1 x.2.1⟩
theorem ac4:CO Tryz.prog acr:=aak aaj Tryz.func15 [afC] ⟨ai5,trivial⟩ [] trivial (fun _ =>[]) [] fun x =>by kernel_rfl
noncomputable def aba (y0:Int):Option ((Int×Unit)×(Unit)) :=
 (lpF (σ:=Int×Int×Unit) (β:=Int×Int×Unit) (fun self3 x1 =>
 if 0<x1.1 then
 self3 (wi (x1.1-1),wu (x1.2.1*2),())
 else
 some (x1.1,x1.2.1,())
 ) 18446744073709551616 (y0,1,())).bind fun z2 =>
 some ((z2.2.1,()),())
noncomputable abbrev afE:Con SR1:=⟨29,[.sh sI_],[.sh sU_],fun x =>aba x.1⟩
theorem ai6:CO Tryz.prog afE:=aak aaj Tryz.func29 [] trivial [] trivial (fun _ =>[]) [(2,.loop [.rg 0 sI_,.rg 3 sU_] 18446744073709551616 0)] fun x =>by kernel_rfl
noncomputable def abM (y0:Int):Option ((Int×Int×Int×Unit)×(Unit)) :=
 (aba 40).bind fun r1 =>
 if r1.1.1≠0 then
 (aba 16).bind fun r2 =>
 if r2.1.1≠0 then
 (aba 24).bind fun r3 =>
 if r3.1.1≠0 then
 (aba 16).bind fun r4 =>
 if r4.1.1≠0 then
 some ((wi (wu (Int.tdiv y0 r1.1.1)),wi ((Int.tmod (wu (Int.tdiv y0 r2.1.1)) r3.1.1)),wi ((Int.tmod y0 r4.1.1)),()),())
 else none
 else none
 else none
 else none
noncomputable abbrev abV:Con SR1:=⟨14,[.sh sU_],[.sh sI_,.sh sI_,.sh sI_],fun x =>abM x.1⟩
theorem acv:CO Tryz.prog abV:=aak aaj Tryz.func14 [afE] ⟨ai6,trivial⟩ [] trivial (fun _ =>[]) [] fun x =>by kernel_rfl
noncomputable def ajM (y0:List St):Option ((List Ev×Unit)×(Unit)) :=
 (lpF (σ:=List Ev×Int×Unit) (β:=List Ev×Int×Unit) (fun self3 x1 =>
 if x1.2.1<((y0.length:Nat):Int) then
 if 0≤x1.2.1∧x1.2.1<((y0.length:Nat):Int) then
 if (((x1.1.length+([(⟨(axU y0 x1.2.1).ev.kind,(axU y0 x1.2.1).ev.worker,(axU y0 x1.2.1).ev.task,(axU y0 x1.2.1).ev.other,(axU y0 x1.2.1).ev.level⟩:Ev)]:List Ev).length:Nat)):Int)<1000000000000 then
 self3 (x1.1++([(⟨(axU y0 x1.2.1).ev.kind,(axU y0 x1.2.1).ev.worker,(axU y0 x1.2.1).ev.task,(axU y0 x1.2.1).ev.other,(axU y0 x1.2.1).ev.level⟩:Ev)]),wi (x1.2.1+1),())
 else none
 else none
 else
 some (x1.1,x1.2.1,())
 ) 18446744073709551616 ([],0,())).bind fun z2 =>
 some ((z2.1,()),())
noncomputable abbrev ah2:Con SR1:=⟨8,[.sh (.ro 6)],[.sh (.row 2)],fun x =>ajM x.1⟩
theorem ah1:CO Tryz.prog ah2:=aak aaj Tryz.func8 [] trivial [] trivial (fun _ =>[]) [(3,.loop [.rg 3 (.row 2),.rg 8 sI_] 18446744073709551616 0)] fun x =>by kernel_rfl
def aH1 {α:Type} (x:A20) (i:Int) (K:Int→Option α):Option α :=
 if i=((19:Nat):Int) then K x.a19 else
 if i=((18:Nat):Int) then K x.a18 else
 if i=((17:Nat):Int) then K x.a17 else
 if i=((16:Nat):Int) then K x.a16 else
 if i=((15:Nat):Int) then K x.a15 else
 if i=((14:Nat):Int) then K x.a14 else
 if i=((13:Nat):Int) then K x.a13 else
 if i=((12:Nat):Int) then K x.a12 else
 if i=((11:Nat):Int) then K x.a11 else
 if i=((10:Nat):Int) then K x.a10 else
 if i=((9:Nat):Int) then K x.a9 else
 if i=((8:Nat):Int) then K x.a8 else
 if i=((7:Nat):Int) then K x.a7 else
 if i=((6:Nat):Int) then K x.a6 else
 if i=((5:Nat):Int) then K x.a5 else
 if i=((4:Nat):Int) then K x.a4 else
 if i=((3:Nat):Int) then K x.a3 else
 if i=((2:Nat):Int) then K x.a2 else
 if i=((1:Nat):Int) then K x.a1 else
 if i=((0:Nat):Int) then K x.a0 else none
def aH0 {α:Type} (x:A20) (i v:Int) (K:A20→Option α):Option α :=
 if i=((19:Nat):Int) then K { x with a19:=v } else
 if i=((18:Nat):Int) then K { x with a18:=v } else
 if i=((17:Nat):Int) then K { x with a17:=v } else
 if i=((16:Nat):Int) then K { x with a16:=v } else
 if i=((15:Nat):Int) then K { x with a15:=v } else
 if i=((14:Nat):Int) then K { x with a14:=v } else
 if i=((13:Nat):Int) then K { x with a13:=v } else
 if i=((12:Nat):Int) then K { x with a12:=v } else
 if i=((11:Nat):Int) then K { x with a11:=v } else
 if i=((10:Nat):Int) then K { x with a10:=v } else
 if i=((9:Nat):Int) then K { x with a9:=v } else
 if i=((8:Nat):Int) then K { x with a8:=v } else
 if i=((7:Nat):Int) then K { x with a7:=v } else
 if i=((6:Nat):Int) then K { x with a6:=v } else
 if i=((5:Nat):Int) then K { x with a5:=v } else
 if i=((4:Nat):Int) then K { x with a4:=v } else
 if i=((3:Nat):Int) then K { x with a3:=v } else
 if i=((2:Nat):Int) then K { x with a2:=v } else
 if i=((1:Nat):Int) then K { x with a1:=v } else
 if i=((0:Nat):Int) then K { x with a0:=v } else none
noncomputable def ahB (y0:List Ev):Option ((A20×Unit)×(Unit)) :=
 (lpF (σ:=Int×A20×Unit) (β:=Int×A20×Unit) (fun self3 x1 =>
 if x1.1<((y0.length:Nat):Int) then
 if 0≤x1.1∧x1.1<((y0.length:Nat):Int) then
 (ac6 ((axL y0 x1.1).kind) 20).bind fun r4 =>
 aH1 x1.2.1 r4.1.1 fun v =>aH0 x1.2.1 r4.1.1 (wi (v+1)) fun a =>self3 (wi (x1.1+1),a,())
 else none
 else
 some (x1.1,x1.2.1,())
 ) 18446744073709551616 (0,(⟨0,0,0,0,0,0,0,0,0,0,0,0,0,0,0,0,0,0,0,0⟩:A20),())).bind fun z2 =>
 some ((z2.2.1,()),())
noncomputable abbrev agM:Con SR1:=⟨24,[.sh (.ro 2)],[.val 63],fun x =>ahB x.1⟩
theorem aks:CO Tryz.prog agM:=aak aaj Tryz.func24 [ael] ⟨afD,trivial⟩ [] trivial (fun _ =>[]) [(3,.loop [.rg 4 sI_,.rg 3 (.own 63)] 18446744073709551616 0)] fun x =>by kernel_rfl
noncomputable def abZ  : Option ((Bool×Unit)×(Unit)) :=
 (agc ([])).bind fun r1 =>
 (aaI ({ r1.1.1 with subs:=[(⟨0,0,0⟩:Sub)] }:Cfg)).bind fun r2 =>
 if r1.1.1.workers=r1.1.1.workers then
 if r1.1.1.levels=r1.1.1.levels then
 if r1.1.1.classes=r1.1.1.classes then
 if r1.1.1.tasks=r1.1.1.tasks then
 if r1.1.1.deque=r1.1.1.deque then
 if r1.1.1.heap=r1.1.1.heap then
 if r1.1.1.batch=r1.1.1.batch then
 if r1.1.1.age=r1.1.1.age then
 if r1.1.1.patience=r1.1.1.patience then
 (aeh ({ r1.1.1 with subs:=[(⟨0,0,0⟩:Sub)] }:Cfg)).bind fun r3 =>
 if r3.1.2.1≠0 then
 if r3.1.2.1≠0 then
 none
 else
 none
 else
 (afW ({ r1.1.1 with subs:=[(⟨0,0,0⟩:Sub)] }:Cfg)).bind fun r4 =>
 if r1.1.1.workers=((1:Nat):Int) then
 (adq 0).bind fun r5 =>
 (lpF (σ:=Int×EnvP×(WorkerV MV)×(ClientV MV)×(Int×List Int×Int×Int×Int×Int×Unit)×Unit) (β:=Int×EnvP×(WorkerV MV)×(ClientV MV)×(Int×List Int×Int×Int×Int×Int×Unit)×Unit) (fun self8 x6 =>
 if x6.1<((r2.1.1.length:Nat):Int) then
 if 0≤x6.1∧x6.1<((r2.1.1.length:Nat):Int) then
 (aaU x6.2.1.m).bind fun r9 =>
 ((
 if ((aoy r2.1.1 x6.1).kind)=0 then
 (acw (aoy r2.1.1 x6.1) 2).bind fun r10 =>
 if r10.1.1=((1:Nat):Int) then
 (aap x6.2.2.2.1 ({ x6.2.1 with m:=r9.2.1 }:EnvP)).bind fun r11 =>
 some (r11.2.2.1,x6.2.2.1,r11.2.1,(x6.2.2.2.2.1.1,x6.2.2.2.2.1.2.1,x6.2.2.2.2.1.2.2.1,x6.2.2.2.2.1.2.2.2.1,x6.2.2.2.2.1.2.2.2.2.1,x6.2.2.2.2.1.2.2.2.2.2.1,()),())
 else
 if r10.1.1=((0:Nat):Int) then
 (aah x6.2.2.1 ({ x6.2.1 with m:=r9.2.1 }:EnvP)).bind fun r12 =>
 some (r12.2.2.1,r12.2.1,x6.2.2.2.1,(x6.2.2.2.2.1.1,x6.2.2.2.2.1.2.1,x6.2.2.2.2.1.2.2.1,x6.2.2.2.2.1.2.2.2.1,x6.2.2.2.2.1.2.2.2.2.1,x6.2.2.2.2.1.2.2.2.2.2.1,()),())
 else
 none
 else
 if ((aoy r2.1.1 x6.1).kind)=1 then
 (adj x6.2.1.k).bind fun r13 =>
 some (({ x6.2.1 with m:=r9.2.1,k:=r13.2.1 }:EnvP),x6.2.2.1,x6.2.2.2.1,(x6.2.2.2.2.1.1,x6.2.2.2.2.1.2.1,x6.2.2.2.2.1.2.2.1,x6.2.2.2.2.1.2.2.2.1,x6.2.2.2.2.1.2.2.2.2.1,x6.2.2.2.2.1.2.2.2.2.2.1,()),())
 else
 if ((aoy r2.1.1 x6.1).kind)=2 then
 (adI x6.2.1.k ((aoy r2.1.1 x6.1).value)).bind fun r14 =>
 some (({ x6.2.1 with m:=r9.2.1,k:=r14.2.1 }:EnvP),x6.2.2.1,x6.2.2.2.1,(x6.2.2.2.2.1.1,x6.2.2.2.2.1.2.1,x6.2.2.2.2.1.2.2.1,x6.2.2.2.2.1.2.2.2.1,x6.2.2.2.2.1.2.2.2.2.1,x6.2.2.2.2.1.2.2.2.2.2.1,()),())
 else
 some (({ x6.2.1 with m:=r9.2.1 }:EnvP),x6.2.2.1,x6.2.2.2.1,(x6.2.2.2.2.1.1,x6.2.2.2.2.1.2.1,x6.2.2.2.2.1.2.2.1,x6.2.2.2.2.1.2.2.2.1,x6.2.2.2.2.1.2.2.2.2.1,x6.2.2.2.2.1.2.2.2.2.2.1,()),())
 ):Option (EnvP×(WorkerV MV)×(ClientV MV)×(Int×List Int×Int×Int×Int×Int×Unit)×Unit)).bind fun z15 =>
 (aaU z15.1.m).bind fun r16 =>
 if r9.1.1<r16.1.1 then
 (adN r16.2.1).bind fun r17 =>
 (lpF (σ:=EnvP×(Int×List Int×Int×Int×Int×Int×Unit)×Unit) (β:=EnvP×(Int×List Int×Int×Int×Int×Int×Unit)×Unit) (fun self20 x18 =>
 if ((x18.2.1.2.1.length:Nat):Int)<((x18.1.evs.length:Nat):Int) then
 if (((x18.2.1.2.1.length+([x18.2.1.1]:List Int).length:Nat)):Int)<1000000000000 then
 self20 (x18.1,(x18.2.1.1,x18.2.1.2.1++([x18.2.1.1]),x18.2.1.2.2.1,x18.2.1.2.2.2.1,x18.2.1.2.2.2.2.1,x18.2.1.2.2.2.2.2.1,()),())
 else none
 else
 some (x18.1,(x18.2.1.1,x18.2.1.2.1,x18.2.1.2.2.1,x18.2.1.2.2.2.1,x18.2.1.2.2.2.2.1,x18.2.1.2.2.2.2.2.1,()),())
 ) 18446744073709551616 (({ z15.1 with m:=r17.2.1 }:EnvP),(z15.2.2.2.1.1,z15.2.2.2.1.2.1,r17.1.1.kind,r17.1.1.cell,r17.1.1.old,r17.1.1.new,()),())).bind fun z19 =>
 self8 (wi (x6.1+1),z19.1,z15.2.1,z15.2.2.1,(wi (z19.2.1.1+1),z19.2.1.2.1,z19.2.1.2.2.1,z19.2.1.2.2.2.1,z19.2.1.2.2.2.2.1,z19.2.1.2.2.2.2.2.1,()),())
 else
 (lpF (σ:=EnvP×(Int×List Int×Int×Int×Int×Int×Unit)×Unit) (β:=EnvP×(Int×List Int×Int×Int×Int×Int×Unit)×Unit) (fun self23 x21 =>
 if ((x21.2.1.2.1.length:Nat):Int)<((x21.1.evs.length:Nat):Int) then
 if (((x21.2.1.2.1.length+([x21.2.1.1]:List Int).length:Nat)):Int)<1000000000000 then
 self23 (x21.1,(x21.2.1.1,x21.2.1.2.1++([x21.2.1.1]),x21.2.1.2.2.1,x21.2.1.2.2.2.1,x21.2.1.2.2.2.2.1,x21.2.1.2.2.2.2.2.1,()),())
 else none
 else
 some (x21.1,(x21.2.1.1,x21.2.1.2.1,x21.2.1.2.2.1,x21.2.1.2.2.2.1,x21.2.1.2.2.2.2.1,x21.2.1.2.2.2.2.2.1,()),())
 ) 18446744073709551616 (({ z15.1 with m:=r16.2.1 }:EnvP),(z15.2.2.2.1.1,z15.2.2.2.1.2.1,0,0,0,0,()),())).bind fun z22 =>
 self8 (wi (x6.1+1),z22.1,z15.2.1,z15.2.2.1,(wi (z22.2.1.1+1),z22.2.1.2.1,z22.2.1.2.2.1,z22.2.1.2.2.2.1,z22.2.1.2.2.2.2.1,z22.2.1.2.2.2.2.2.1,()),())
 else none
 else
 some (x6.1,x6.2.1,x6.2.2.1,x6.2.2.2.1,(x6.2.2.2.2.1.1,x6.2.2.2.2.1.2.1,x6.2.2.2.2.1.2.2.1,x6.2.2.2.2.1.2.2.2.1,x6.2.2.2.2.1.2.2.2.2.1,x6.2.2.2.2.1.2.2.2.2.2.1,()),())
 ) 18446744073709551616 (0,r3.1.1,r5.1.1,r4.1.1,(0,[],0,0,0,0,()),())).bind fun z7 =>
 (lpF (σ:=Int×EnvP×(WorkerV MV)×(ClientV MV)×(Int×List Int×Int×Int×Int×Int×Unit)×Unit) (β:=Int×EnvP×(WorkerV MV)×(ClientV MV)×(Int×List Int×Int×Int×Int×Int×Unit)×Unit) (fun self26 x24 =>
 if x24.1<60 then
 (acC 0).bind fun r27 =>
 (aaU x24.2.1.m).bind fun r28 =>
 ((
 if r27.1.1.kind=0 then
 (acw r27.1.1 2).bind fun r29 =>
 if r29.1.1=((1:Nat):Int) then
 (aap x24.2.2.2.1 ({ x24.2.1 with m:=r28.2.1 }:EnvP)).bind fun r30 =>
 some (r30.2.2.1,x24.2.2.1,r30.2.1,(x24.2.2.2.2.1.1,x24.2.2.2.2.1.2.1,x24.2.2.2.2.1.2.2.1,x24.2.2.2.2.1.2.2.2.1,x24.2.2.2.2.1.2.2.2.2.1,x24.2.2.2.2.1.2.2.2.2.2.1,()),())
 else
 if r29.1.1=((0:Nat):Int) then
 (aah x24.2.2.1 ({ x24.2.1 with m:=r28.2.1 }:EnvP)).bind fun r31 =>
 some (r31.2.2.1,r31.2.1,x24.2.2.2.1,(x24.2.2.2.2.1.1,x24.2.2.2.2.1.2.1,x24.2.2.2.2.1.2.2.1,x24.2.2.2.2.1.2.2.2.1,x24.2.2.2.2.1.2.2.2.2.1,x24.2.2.2.2.1.2.2.2.2.2.1,()),())
 else
 none
 else
 if r27.1.1.kind=1 then
 (adj x24.2.1.k).bind fun r32 =>
 some (({ x24.2.1 with m:=r28.2.1,k:=r32.2.1 }:EnvP),x24.2.2.1,x24.2.2.2.1,(x24.2.2.2.2.1.1,x24.2.2.2.2.1.2.1,x24.2.2.2.2.1.2.2.1,x24.2.2.2.2.1.2.2.2.1,x24.2.2.2.2.1.2.2.2.2.1,x24.2.2.2.2.1.2.2.2.2.2.1,()),())
 else
 if r27.1.1.kind=2 then
 (adI x24.2.1.k r27.1.1.value).bind fun r33 =>
 some (({ x24.2.1 with m:=r28.2.1,k:=r33.2.1 }:EnvP),x24.2.2.1,x24.2.2.2.1,(x24.2.2.2.2.1.1,x24.2.2.2.2.1.2.1,x24.2.2.2.2.1.2.2.1,x24.2.2.2.2.1.2.2.2.1,x24.2.2.2.2.1.2.2.2.2.1,x24.2.2.2.2.1.2.2.2.2.2.1,()),())
 else
 some (({ x24.2.1 with m:=r28.2.1 }:EnvP),x24.2.2.1,x24.2.2.2.1,(x24.2.2.2.2.1.1,x24.2.2.2.2.1.2.1,x24.2.2.2.2.1.2.2.1,x24.2.2.2.2.1.2.2.2.1,x24.2.2.2.2.1.2.2.2.2.1,x24.2.2.2.2.1.2.2.2.2.2.1,()),())
 ):Option (EnvP×(WorkerV MV)×(ClientV MV)×(Int×List Int×Int×Int×Int×Int×Unit)×Unit)).bind fun z34 =>
 (aaU z34.1.m).bind fun r35 =>
 if r28.1.1<r35.1.1 then
 (adN r35.2.1).bind fun r36 =>
 (lpF (σ:=EnvP×(Int×List Int×Int×Int×Int×Int×Unit)×Unit) (β:=EnvP×(Int×List Int×Int×Int×Int×Int×Unit)×Unit) (fun self39 x37 =>
 if ((x37.2.1.2.1.length:Nat):Int)<((x37.1.evs.length:Nat):Int) then
 if (((x37.2.1.2.1.length+([x37.2.1.1]:List Int).length:Nat)):Int)<1000000000000 then
 self39 (x37.1,(x37.2.1.1,x37.2.1.2.1++([x37.2.1.1]),x37.2.1.2.2.1,x37.2.1.2.2.2.1,x37.2.1.2.2.2.2.1,x37.2.1.2.2.2.2.2.1,()),())
 else none
 else
 some (x37.1,(x37.2.1.1,x37.2.1.2.1,x37.2.1.2.2.1,x37.2.1.2.2.2.1,x37.2.1.2.2.2.2.1,x37.2.1.2.2.2.2.2.1,()),())
 ) 18446744073709551616 (({ z34.1 with m:=r36.2.1 }:EnvP),(z34.2.2.2.1.1,z34.2.2.2.1.2.1,r36.1.1.kind,r36.1.1.cell,r36.1.1.old,r36.1.1.new,()),())).bind fun z38 =>
 self26 (wi (x24.1+1),z38.1,z34.2.1,z34.2.2.1,(wi (z38.2.1.1+1),z38.2.1.2.1,z38.2.1.2.2.1,z38.2.1.2.2.2.1,z38.2.1.2.2.2.2.1,z38.2.1.2.2.2.2.2.1,()),())
 else
 (lpF (σ:=EnvP×(Int×List Int×Int×Int×Int×Int×Unit)×Unit) (β:=EnvP×(Int×List Int×Int×Int×Int×Int×Unit)×Unit) (fun self42 x40 =>
 if ((x40.2.1.2.1.length:Nat):Int)<((x40.1.evs.length:Nat):Int) then
 if (((x40.2.1.2.1.length+([x40.2.1.1]:List Int).length:Nat)):Int)<1000000000000 then
 self42 (x40.1,(x40.2.1.1,x40.2.1.2.1++([x40.2.1.1]),x40.2.1.2.2.1,x40.2.1.2.2.2.1,x40.2.1.2.2.2.2.1,x40.2.1.2.2.2.2.2.1,()),())
 else none
 else
 some (x40.1,(x40.2.1.1,x40.2.1.2.1,x40.2.1.2.2.1,x40.2.1.2.2.2.1,x40.2.1.2.2.2.2.1,x40.2.1.2.2.2.2.2.1,()),())
 ) 18446744073709551616 (({ z34.1 with m:=r35.2.1 }:EnvP),(z34.2.2.2.1.1,z34.2.2.2.1.2.1,0,0,0,0,()),())).bind fun z41 =>
 self26 (wi (x24.1+1),z41.1,z34.2.1,z34.2.2.1,(wi (z41.2.1.1+1),z41.2.1.2.1,z41.2.1.2.2.1,z41.2.1.2.2.2.1,z41.2.1.2.2.2.2.1,z41.2.1.2.2.2.2.2.1,()),())
 else
 some (x24.1,x24.2.1,x24.2.2.1,x24.2.2.2.1,(x24.2.2.2.2.1.1,x24.2.2.2.2.1.2.1,x24.2.2.2.2.1.2.2.1,x24.2.2.2.2.1.2.2.2.1,x24.2.2.2.2.1.2.2.2.2.1,x24.2.2.2.2.1.2.2.2.2.2.1,()),())
 ) 18446744073709551616 (0,z7.2.1,z7.2.2.1,z7.2.2.2.1,(z7.2.2.2.2.1.1,z7.2.2.2.2.1.2.1,z7.2.2.2.2.1.2.2.1,z7.2.2.2.2.1.2.2.2.1,z7.2.2.2.2.1.2.2.2.2.1,z7.2.2.2.2.1.2.2.2.2.2.1,()),())).bind fun z25 =>
 (ahl z25.2.2.2.1).bind fun r43 =>
 if r43.1.1≠4 then
 some ((false,()),())
 else
 (aha z25.2.2.1).bind fun r44 =>
 if r44.1.1=2 then
 some ((false,()),())
 else
 if z25.2.1.l.workers=z25.2.1.l.workers then
 if z25.2.1.l.levels=z25.2.1.l.levels then
 if z25.2.1.l.classes=z25.2.1.l.classes then
 if z25.2.1.l.tasks=z25.2.1.l.tasks then
 if z25.2.1.l.deque=z25.2.1.l.deque then
 if z25.2.1.l.heap=z25.2.1.l.heap then
 if z25.2.1.l.sleepers=z25.2.1.l.sleepers then
 if z25.2.1.l.epochs=z25.2.1.l.epochs then
 if z25.2.1.l.bitmaps=z25.2.1.l.bitmaps then
 if z25.2.1.l.queues=z25.2.1.l.queues then
 if z25.2.1.l.table=z25.2.1.l.table then
 (lpF (σ:=Int×MemV×Unit) (β:=(Int×MemV×Unit)⊕((Bool×Unit)×(Unit))) (fun self47 x45 =>
 if x45.1<z25.2.1.c.tasks then
 (aBC z25.2.1.l).bind fun r48 =>
 if r48.1.1<0 then
 if (wu (x45.1))<0 then
 (ad8 z25.2.1.l x45.1).bind fun r49 =>
 if r49.1.1<0 then
 Option.map Sum.inr (
 some ((false,()),())
 )
 else
 if ((x45.2.1.cells.length:Nat):Int)≤r49.1.1 then
 Option.map Sum.inr (
 some ((false,()),())
 )
 else
 if 0≤r49.1.1∧r49.1.1<((x45.2.1.cells.length:Nat):Int) then
 if (aeu x45.2.1.cells r49.1.1)≠4 then
 Option.map Sum.inr (
 some ((false,()),())
 )
 else
 self47 (wi (x45.1+1),x45.2.1,())
 else none
 else
 some (Sum.inl (x45.1,x45.2.1,()))
 else
 if ((x45.2.1.cells.length:Nat):Int)≤r48.1.1 then
 if (wu (x45.1))<0 then
 (ad8 z25.2.1.l x45.1).bind fun r50 =>
 if r50.1.1<0 then
 Option.map Sum.inr (
 some ((false,()),())
 )
 else
 if ((x45.2.1.cells.length:Nat):Int)≤r50.1.1 then
 Option.map Sum.inr (
 some ((false,()),())
 )
 else
 if 0≤r50.1.1∧r50.1.1<((x45.2.1.cells.length:Nat):Int) then
 if (aeu x45.2.1.cells r50.1.1)≠4 then
 Option.map Sum.inr (
 some ((false,()),())
 )
 else
 self47 (wi (x45.1+1),x45.2.1,())
 else none
 else
 some (Sum.inl (x45.1,x45.2.1,()))
 else
 if 0≤r48.1.1∧r48.1.1<((x45.2.1.cells.length:Nat):Int) then
 if (wu (x45.1))<(aeu x45.2.1.cells r48.1.1) then
 (ad8 z25.2.1.l x45.1).bind fun r51 =>
 if r51.1.1<0 then
 Option.map Sum.inr (
 some ((false,()),())
 )
 else
 if ((x45.2.1.cells.length:Nat):Int)≤r51.1.1 then
 Option.map Sum.inr (
 some ((false,()),())
 )
 else
 if 0≤r51.1.1∧r51.1.1<((x45.2.1.cells.length:Nat):Int) then
 if (aeu x45.2.1.cells r51.1.1)≠4 then
 Option.map Sum.inr (
 some ((false,()),())
 )
 else
 self47 (wi (x45.1+1),x45.2.1,())
 else none
 else
 some (Sum.inl (x45.1,x45.2.1,()))
 else none
 else
 some (Sum.inl (x45.1,x45.2.1,()))
 ) 18446744073709551616 (0,z25.2.1.m,())).bind fun z46 =>match z46 with
 | .inr o52 =>some o52
 | .inl z46 =>
 (lpF (σ:=Int×List St×(Int×List Int×Int×Int×Int×Int×Unit)×Unit) (β:=Int×List St×(Int×List Int×Int×Int×Int×Int×Unit)×Unit) (fun self55 x53 =>
 if x53.1<((z25.2.1.evs.length:Nat):Int) then
 if 0≤x53.1∧x53.1<((z25.2.1.evs.length:Nat):Int) then
 if 0≤x53.1∧x53.1<((x53.2.2.1.2.1.length:Nat):Int) then
 if (((x53.2.1.length+([(⟨ahz x53.2.2.1.2.1 x53.1,axL z25.2.1.evs x53.1⟩:St)]:List St).length:Nat)):Int)<1000000000000 then
 self55 (wi (x53.1+1),x53.2.1++([(⟨ahz x53.2.2.1.2.1 x53.1,axL z25.2.1.evs x53.1⟩:St)]),(x53.2.2.1.1,x53.2.2.1.2.1,x53.2.2.1.2.2.1,x53.2.2.1.2.2.2.1,x53.2.2.1.2.2.2.2.1,x53.2.2.1.2.2.2.2.2.1,()),())
 else none
 else none
 else none
 else
 some (x53.1,x53.2.1,(x53.2.2.1.1,x53.2.2.1.2.1,x53.2.2.1.2.2.1,x53.2.2.1.2.2.2.1,x53.2.2.1.2.2.2.2.1,x53.2.2.1.2.2.2.2.2.1,()),())
 ) 18446744073709551616 (0,[],(z25.2.2.2.2.1.1,z25.2.2.2.2.1.2.1,z25.2.2.2.2.1.2.2.1,z25.2.2.2.2.1.2.2.2.1,z25.2.2.2.2.1.2.2.2.2.1,z25.2.2.2.2.1.2.2.2.2.2.1,()),())).bind fun z54 =>
 (ajM z54.2.1).bind fun r56 =>
 (ahB r56.1.1).bind fun r57 =>
 if r57.1.1.a1=1 then
 if r57.1.1.a13=1 then
 if r57.1.1.a5=1 then
 some ((decide (r57.1.1.a10=1),()),())
 else
 some ((false,()),())
 else
 some ((false,()),())
 else
 some ((false,()),())
 else none
 else none
 else none
 else none
 else none
 else none
 else none
 else none
 else none
 else none
 else none
 else
 none
 else none
 else none
 else none
 else none
 else none
 else none
 else none
 else none
 else none
noncomputable abbrev ab9:Con SR1:=⟨7,[],[.sh .b],fun x =>abZ ⟩
noncomputable def ai4:List (Nat×Func):=[(20,Tryz.f20),(35,Tryz.f35),(58,Tryz.f58),(36,Tryz.f36),(21,Tryz.f21),(23,Tryz.f23),(45,Tryz.f45),(61,Tryz.f61),(42,Tryz.f42),(46,Tryz.f46),(9,Tryz.f9)]
theorem acV:CO Tryz.prog ab9:=aak aaj Tryz.func7 [ahY,abr,aeO,afq,afh,ab3,ads,acm,acg,ac2,ady,acl,adB,agq,agi,avc,afz,ah2,agM] ⟨ahX,abW,ae1,afV,afH,act,adL,acT,acJ,adx,adO,acO,aem,ajO,ajh,aww,aeZ,ah1,aks,trivial⟩ ai4 ⟨Tryz.func20,Tryz.func35,Tryz.func58,Tryz.func36,Tryz.func21,Tryz.func23,Tryz.func45,Tryz.func61,Tryz.func42,Tryz.func46,Tryz.func9,trivial⟩ (fun f =>(get [(35,[(6,.spl 22 [1] 2)]),(58,[(2,.unroll 2)]),(36,[(1,.loop [.rg 8 sI_,.ob 38 27,.ob 52 31,.ob 40 30,.cx 41 [.inr (.ptr 38 0),.inr (.sl 54),.inr (.ptr 40 0),.inr (.sl 80),.inl sI_,.inl (.row 1),.inl sI_,.inl sI_,.inl sU_,.inl sU_]] 18446744073709551616 0)]),(21,[(9,.cut [.ob 38 27,.ob 52 31,.ob 40 30,.cx 41 [.inr (.ptr 38 0),.inr (.sl 54),.inr (.ptr 40 0),.inr (.sl 80),.inl sI_,.inl (.row 1),.inl sI_,.inl sI_,.inl sU_,.inl sU_]] [9,10,12,83,84,85]),(9,.cut [.ob 38 27,.ob 52 31,.ob 40 30,.cx 41 [.inr (.ptr 38 0),.inr (.sl 54),.inr (.ptr 40 0),.inr (.sl 80),.inl sI_,.inl (.row 1),.inl sI_,.inl sI_,.inl sU_,.inl sU_]] [9,10,12,86]),(12,.loop [.ob 38 27,.cx 41 [.inr (.ptr 38 0),.inr (.sl 54),.inr (.ptr 40 0),.inr (.sl 80),.inl sI_,.inl (.row 1),.inl sI_,.inl sI_,.inl sU_,.inl sU_]] 18446744073709551616 1)]),(23,[(6,.loopR [.rg 6 sI_,.ob 118 9] 18446744073709551616 0)]),(61,[(2,.unroll 2)]),(9,[(3,.loop [.rg 14 sI_,.rg 3 (.row 6),.cx 41 [.inr (.ptr 38 0),.inr (.sl 54),.inr (.ptr 40 0),.inr (.sl 80),.inl sI_,.inl (.row 1),.inl sI_,.inl sI_,.inl sU_,.inl sU_]] 18446744073709551616 0)])] f).getD []) [(5,.loop [.rg 3 sI_,.ob 38 27,.ob 52 31,.ob 40 30,.cx 41 [.inr (.ptr 38 0),.inr (.sl 54),.inr (.ptr 40 0),.inr (.sl 80),.inl sI_,.inl (.row 1),.inl sI_,.inl sI_,.inl sU_,.inl sU_]] 18446744073709551616 0)] fun x =>by kernel_rfl
end
section
def aoC (g:Nat→Int) (i:Nat) (v:Int):Nat→Int:=fun j =>if j=i then v else g j
theorem ad3 {g:Nat→Int} {i:Nat} {v:Int}:aoC g i v i=v:=if_pos rfl
theorem ad4 {g:Nat→Int} {i j:Nat} {v:Int} (h:j≠i):aoC g i v j=g j:=if_neg h
def ali (g:Nat→Int) (x:Int):Nat→Int
 | 0 =>0
 | n+1 =>ali g x n+if g n=x then 1 else 0
theorem avJ {g h:Nat→Int} {x:Int}:∀ {n:Nat},(∀ j,j<n→g j=h j)→ali g x n=ali h x n
 | 0,_ =>rfl
 | n+1,H =>by
  unfold ali
  rw [avJ (n:=n) fun j hj =>H j (by omega),H n (by omega)]
theorem ahk {g:Nat→Int} {x v:Int} {i:Nat}:∀ {n:Nat},i<n→ali (aoC g i v) x n+(if g i=x then 1 else 0)=ali g x n+if v=x then 1 else 0
 | 0,h =>by omega
 | n+1,h =>by
  unfold ali
  by_cases e:i=n
  ·subst e
   rw [ad3,avJ (h:=g) fun j hj =>ad4 (by omega)]
   omega
  ·rw [ad4 (g:=g) (i:=i) (j:=n) (v:=v) (by omega)]
   have:=ahk (g:=g) (x:=x) (v:=v) (i:=i) (n:=n) (by omega)
   omega
theorem aqk {g:Nat→Int} {x:Int}:∀ {n:Nat},0≤ali g x n
 | 0 =>Int.le_refl 0
 | n+1 =>by
  unfold ali
  have:=aqk (g:=g) (x:=x) (n:=n)
  split<;>omega
theorem asL {g:Nat→Int} {x:Int}:∀ {n:Nat},0<ali g x n→∃ j,j<n∧g j=x
 | 0,h =>by unfold ali at h; omega
 | n+1,h =>by
  unfold ali at h
  by_cases e:g n=x
  ·exact ⟨n,by omega,e⟩
  ·rw [if_neg e] at h
   obtain ⟨j,h1,h2⟩:=asL (g:=g) (x:=x) (n:=n) (by omega)
   exact ⟨j,by omega,h2⟩
theorem axa {g:Nat→Int} {x:Int}:∀ {n j:Nat},j<n→g j=x→0<ali g x n
 | 0,_,h,_ =>by omega
 | n+1,j,h,e =>by
  unfold ali
  have h0:=aqk (g:=g) (x:=x) (n:=n)
  by_cases e2:j=n
  ·subst e2; rw [if_pos e]; omega
  ·have:=axa (n:=n) (j:=j) (by omega) e
   split<;>omega
def anJ (g:Nat→Int) (n:Nat):Prop:=∀ j,1≤j→j<n→g ((j-1) / 2)≤g j
theorem anJ.min {g:Nat→Int} {n:Nat} (h:anJ g n):∀ j,j<n→g 0≤g j:=by
 intro j
 induction j using Nat.strongRecOn with
 | ind j ih =>
  intro hj
  by_cases e:j=0
  ·subst e; exact Int.le_refl _
  ·exact Int.le_trans (ih ((j-1) / 2) (by omega) (by omega)) (h j (by omega) hj)
theorem anJ.le {g:Nat→Int} {n m:Nat} (h:anJ g n) (hm:m≤n):anJ g m:=fun j h1 h2 =>h j h1 (by omega)
structure HoleF (g:Nat→Int) (i m:Nat):Prop where
 o:∀ j,1≤j→j<m→j≠i→(j-1) / 2≠i→g ((j-1) / 2)≤g j
 c:1≤i→∀ j,1≤j→j<m→(j-1) / 2=i→g ((i-1) / 2)≤g j
structure UpF (g:Nat→Int) (i m:Nat) (k:Int):Prop where
 h:HoleF g i m
 b:i<m
 k:∀ j,1≤j→j<m→(j-1) / 2=i→k≤g j
structure DownF (g:Nat→Int) (i m:Nat) (k:Int):Prop where
 h:HoleF g i m
 b:i<m
 k:1≤i→g ((i-1) / 2)≤k
theorem HoleF.fill {g:Nat→Int} {i m:Nat} {k:Int} (h:HoleF g i m) (h1:1≤i→g ((i-1) / 2)≤k) (h2:∀ j,1≤j→j<m→(j-1) / 2=i→k≤g j):anJ (aoC g i k) m:=fun j a b =>by
 by_cases e:j=i
 ·subst e
  rw [ad3,ad4 (by omega)]
  exact h1 a
 ·rw [ad4 e]
  by_cases e2:(j-1) / 2=i
  ·rw [e2,ad3]; exact h2 j a b e2
  ·rw [ad4 e2]; exact h.o j a b e e2
theorem UpF.start {g:Nat→Int} {n:Nat} {k:Int} (h:anJ g n):UpF g n (n+1) k:=⟨⟨fun j a b c _ =>h j a (by omega),fun _ j _ b e =>by omega⟩,by omega,fun j _ b e =>by omega⟩
theorem UpF.fill {g:Nat→Int} {i m:Nat} {k:Int} (h:UpF g i m k) (h1:1≤i→g ((i-1) / 2)≤k):anJ (aoC g i k) m:=h.h.fill h1 h.k
theorem UpF.step {g:Nat→Int} {i m:Nat} {k:Int} (h:UpF g i m k) (hi:1≤i) (hk:k<g ((i-1) / 2)):UpF (aoC g i (g ((i-1) / 2))) ((i-1) / 2) m k:=by
 have hb:=h.b
 have hp:(i-1) / 2<i:=by omega
 refine ⟨⟨fun j a b e1 e2 =>?_,fun a j b1 b2 e =>?_⟩,by omega,fun j a b e =>?_⟩
 ·by_cases e3:j=i
  ·exact absurd (by rw [e3]) e2
  ·rw [ad4 e3]
   by_cases e4:(j-1) / 2=i
   ·rw [e4,ad3]; exact h.h.c hi j a b e4
   ·rw [ad4 e4]; exact h.h.o j a b e3 e4
 ·have hq:g (((i-1) / 2-1) / 2)≤g ((i-1) / 2):=h.h.o ((i-1) / 2) a (by omega) (by omega) (by omega)
  rw [ad4 (by omega)]
  by_cases e3:j=i
  ·rw [e3,ad3]; exact hq
  ·rw [ad4 e3]
   have:=h.h.o j b1 b2 e3 (by omega)
   rw [e] at this
   exact Int.le_trans hq this
 ·by_cases e3:j=i
  ·rw [e3,ad3]; omega
  ·rw [ad4 e3]
   have:=h.h.o j a b e3 (by omega)
   rw [e] at this
   omega
theorem DownF.start {g:Nat→Int} {m:Nat} {k:Int} (h:anJ g m) (hm:0<m):DownF g 0 m k:=⟨⟨fun j a b _ _ =>h j a b,fun a =>by omega⟩,hm,fun a =>by omega⟩
theorem DownF.fill {g:Nat→Int} {i m:Nat} {k:Int} (h:DownF g i m k) (h2:∀ j,1≤j→j<m→(j-1) / 2=i→k≤g j):anJ (aoC g i k) m:=h.h.fill h.k h2
theorem DownF.step {g:Nat→Int} {i c m:Nat} {k:Int} (h:DownF g i m k) (hc:1≤c) (hm:c<m) (hi:(c-1) / 2=i) (hk:g c<k) (hz:∀ j,1≤j→j<m→(j-1) / 2=i→g c≤g j):DownF (aoC g i (g c)) c m k:=by
 refine ⟨⟨fun j a b e1 e2 =>?_,fun a j b1 b2 e =>?_⟩,hm,fun a =>?_⟩
 ·by_cases e3:j=i
  ·subst e3
   rw [ad3,ad4 (by omega)]
   exact h.h.c a c hc hm hi
  ·rw [ad4 e3]
   by_cases e4:(j-1) / 2=i
   ·rw [e4,ad3]; exact hz j a b e4
   ·rw [ad4 e4]; exact h.h.o j a b e3 e4
 ·rw [hi,ad3,ad4 (by omega)]
  have:=h.h.o j b1 b2 (by omega) (by omega)
  rw [e] at this
  exact this
 ·rw [hi,ad3]; omega
end
end Go.Proofs.YtdnimkpfgjcjeaaGreat
