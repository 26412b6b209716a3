/- slices.Insert at queue.Key,walked. slices.Insert at queue.Key in the evaluator's form. The model of the program in the evaluator's form. The model of the program in the evaluator's form. The model of the program in the evaluator's form. The program's model: which events are in their ranges. -/
import Derived.Test.YtkmkhldmflebkaaGreatRows
import Derived.Test.YtkmkhldmflebkaaGreatCzaa
import Derived.WalkKit
import Derived.Shelf.Spec.SlicesInsertGrow
import Derived.Test.YtkmkhldmflebkaaGreatCzai
set_option linter.all false
namespace Go.Proofs.YtkmkhldmflebkaaGreat
section
open Go Go.RowKit Go.Lib
set_option maxRecDepth 100000
set_option maxHeartbeats 4000000
theorem aoc (w:World):(Go.underlying 117).run Tryz.prog w=.ok (.slice 174) w:=abY Tryz.underlying117
theorem at3:∃ i,Tryz.prog.info? 174=some i∧i.zero=some (.agg #[.int .i64 0,.int .i64 0,.int .i64 0])∧i.size=3∧i.bytes=24:=by
 obtain ⟨i,hi⟩:∃ i,Tryz.prog.info? 174=some i∧i.zero=some (.agg #[.int .i64 0,.int .i64 0,.int .i64 0])∧i.size=3∧i.bytes=24:=⟨_,rfl,by kernel_rfl,by kernel_rfl,by kernel_rfl⟩
 exact ⟨i,hi⟩
theorem arW (w:World):(Go.sizeOf 174).run Tryz.prog w=.ok 3 w:=by
 obtain ⟨i,h1,h2,h3,h4⟩:=at3
 unfold Go.sizeOf
 rw [aab (ab5 h1),h3]
 rfl
theorem ayH (base:Option Addr) (n c vb voff vc:Nat) (v':Value) (w W1:World) (hnc:n≤c) (hc63:c≤9223372036854775807) (hb:base=none→n=0∧c=0)
  (h1:∀ ty,(Builtin.append_ #[117,117] ty #[.slice base n c,.slice (some ⟨vb,voff,none⟩) 1 vc]).run Tryz.prog w=.ok v' W1) :
  Calls Tryz.prog 98 #[.slice base n c,.int .i64 n,.slice (some ⟨vb,voff,none⟩) 1 vc] w fun e w' =>e=.returned v'∧w'=W1:=by
 have q1:=aoc
 have q2:=arW
 have q3:=Tryz.underlying117
 go_enter Tryz.func98,Tryz.ntmps98
 cases base with
 | none =>
  obtain ⟨rfl,rfl⟩:=hb rfl
  go_wp2_with (at_builtin; refine Lib.wpList_append_run _ rfl _ _ _ _ rfl _ _ rfl rfl _ _ (h1 _) ?_)
  go_ret
  exact ⟨rfl,rfl⟩
 | some a =>
  obtain ⟨ab,ao,asp⟩:=a
  go_wp2_with (at_builtin; refine Lib.wpList_append_run _ rfl _ _ _ _ rfl _ _ rfl rfl _ _ (h1 _) ?_)
  all_goals (go_ret; exact ⟨rfl,rfl⟩)
theorem aua (b off n c i vb voff vc:Nat) (r1 r2:Value) (w W1 W2:World) (hi:i<n) (hroom:n+1≤c) (hc63:c≤9223372036854775807)
  (hov:∀ cb,(callFunc 146 #[.slice (some ⟨vb,voff,none⟩) 1 vc,.slice (some ⟨b,off+(i+1)*3,none⟩) (n-i) cb]).run Tryz.prog w=.ok (.value (.bool false)) w)
  (h1:∀ ty dc sc,(Builtin.copy_ #[117,117] ty #[.slice (some ⟨b,off+(i+1)*3,none⟩) (n+1-(i+1)) dc,.slice (some ⟨b,off+i*3,none⟩) (n+1-i) sc]).run Tryz.prog w.drew=.ok r1 W1)
  (h2:∀ ty dc,(Builtin.copy_ #[117,117] ty #[.slice (some ⟨b,off+i*3,none⟩) (n+1-i) dc,.slice (some ⟨vb,voff,none⟩) 1 vc]).run Tryz.prog W1=.ok r2 W2) :
  Calls Tryz.prog 98 #[.slice (some ⟨b,off,none⟩) n c,.int .i64 i,.slice (some ⟨vb,voff,none⟩) 1 vc] w fun e w' =>e=.returned (.slice (some ⟨b,off,none⟩) (n+1) c)∧w'=W2:=by
 have q1:=aoc
 have q2:=arW
 have q3:=Tryz.underlying117
 have aaB:Tryz.prog.follows .mixedOrders=true:=by kernel_rfl
 have hz2:¬ ((i:Int)=(n:Int)):=by omega
 have hw1:IntKind.i64.wrap ((i:Int)+1)=(i:Int)+1:=by rw [IntKind.wrap_i64]; omega
 have hw2:IntKind.i64.wrap ((n:Int)+1)=(n:Int)+1:=by rw [IntKind.wrap_i64]; omega
 have hb1:(0:Int)≤(i:Int)+1:=by omega
 have hin:i≤n:=by omega
 have htn:((i:Int)+1).toNat=i+1:=by omega
 have htn2:((n:Int)+1).toNat=n+1:=by omega
 have hb2:¬ (c=i+1):=by omega
 have hb3:(i:Int)≤(n:Int)+1:=by omega
 have hb4:¬ (c=i):=by omega
 go_enter Tryz.func98,Tryz.ntmps98
 go_wp2_with (simp only [hov])
 go_region_law_o (refine step_copy_runI rfl _ _ 117 117 rfl (.slice (some ⟨b,off+(i+1)*3,none⟩) (n+1-(i+1)) (c-(i+1))) (.slice (some ⟨b,off+i*3,none⟩) (n+1-i) (c-i)) (by simp [Act.eval,Act.put]) (by simp [Act.eval,Act.put]) (h1 _ _ _) ?_)
 go_wp2_with (at_builtin; refine wpList_copy_runI _ rfl _ _ 117 117 rfl _ _ rfl rfl (h2 _ _) ?_)
 go_ret
 exact ⟨rfl,rfl⟩
theorem aws (b off n c i vb voff vc g G:Nat) (r1 r2:Value) (w W0 W1 W2:World) (hi:i<n) (hnc:n≤c) (hroom:c<n+1) (hc63:c≤9223372036854775807) (hn63:n+1≤9223372036854775807) (hG:n+1≤G) (hG63:G≤9223372036854775807)
  (h0:∀ ty,(Builtin.append_ #[117,3] ty #[.slice (some ⟨b,off,none⟩) i c,.int .i64 ((n:Int)+1-(i:Int))]).run Tryz.prog w=.ok (.slice (some ⟨g,0,none⟩) (n+1) G) W0)
  (h1:∀ ty,(Builtin.copy_ #[117,117] ty #[.slice (some ⟨g,i*3,none⟩) (n+1-i) (G-i),.slice (some ⟨vb,voff,none⟩) 1 vc]).run Tryz.prog W0=.ok r1 W1)
  (h2:∀ ty,(Builtin.copy_ #[117,117] ty #[.slice (some ⟨g,(i+1)*3,none⟩) (n+1-(i+1)) (G-(i+1)),.slice (some ⟨b,off+i*3,none⟩) (n-i) (c-i)]).run Tryz.prog W1.drew=.ok r2 W2) :
  Calls Tryz.prog 98 #[.slice (some ⟨b,off,none⟩) n c,.int .i64 i,.slice (some ⟨vb,voff,none⟩) 1 vc] w fun e w' =>e=.returned (.slice (some ⟨g,0,none⟩) (n+1) G)∧w'=W2:=by
 have q1:=aoc
 have q2:=arW
 have q3:=Tryz.underlying117
 have aaB:Tryz.prog.follows .mixedOrders=true:=by kernel_rfl
 have hz2:¬ ((i:Int)=(n:Int)):=by omega
 have hz3:(c:Int)<(n:Int)+1:=by omega
 have hw1:IntKind.i64.wrap ((i:Int)+1)=(i:Int)+1:=by rw [IntKind.wrap_i64]; omega
 have hw2:IntKind.i64.wrap ((n:Int)+1)=(n:Int)+1:=by rw [IntKind.wrap_i64]; omega
 have hw3:IntKind.i64.wrap ((n:Int)+1-(i:Int))=(n:Int)+1-(i:Int):=by rw [IntKind.wrap_i64]; omega
 have hb1:(0:Int)≤(i:Int)+1:=by omega
 have hin:i≤n:=by omega
 have htn:((i:Int)+1).toNat=i+1:=by omega
 have hb3:(i:Int)≤(n:Int):=by omega
 have hb4:¬ (c=i):=by omega
 have hG1:¬ (G=i):=by omega
 have hG2:¬ (G=i+1):=by omega
 have hb5:(i:Int)≤(n:Int)+1:=by omega
 go_enter Tryz.func98,Tryz.ntmps98
 go_wp2_with (first
  | (at_builtin; refine Lib.wpList_append_run _ rfl _ _ _ _ rfl _ _ rfl rfl _ _ (h0 _) ?_)
  | (at_builtin; refine wpList_copy_runI _ rfl _ _ 117 117 rfl (.slice (some ⟨g,i*3,none⟩) (n+1-i) (G-i)) (.slice (some ⟨vb,voff,none⟩) 1 vc) (by simp [Act.eval,Act.put]) (by simp [Act.eval,Act.put]) (h1 _) ?_))
 go_region_law_o (refine step_copy_runI rfl _ _ 117 117 rfl (.slice (some ⟨g,(i+1)*3,none⟩) (n+1-(i+1)) (G-(i+1))) (.slice (some ⟨b,off+i*3,none⟩) (n-i) (c-i)) (by simp [Act.eval,Act.put]) (by simp [Act.eval,Act.put]) (h2 _) ?_)
 go_wp2
 go_ret
 exact ⟨rfl,rfl⟩
end
section
open Go Go.RowKit Go.Lib
set_option maxRecDepth 100000
theorem akg {w w1:World} {ty:TypeId} {b o dLen dCap sLen sCap n:Nat} {a:Addr} {cs:List Value} (hn:Nat.min sLen dLen=n) (hl:∀ j u,cs[j]?=some u→w.cell? (a.add j)=some u) (hc:cs.length=n*3) (hst:(storeCells ⟨b,o,none⟩ cs 0).run Tryz.prog w=.ok () w1) :
  (Builtin.copy_ #[117,117] ty #[.slice (some ⟨b,o,none⟩) dLen dCap,.slice (some a) sLen sCap]).run Tryz.prog w=.ok (goInt n) w1:=by
 have h1:(loadCells a (n*3)).run Tryz.prog w=.ok cs.toArray w:=by rw [← hc]; exact run_loadCells_list w a cs hl
 have h2:=aoc
 have h3:=arW
 simp [Builtin.copy_,h2,h3,Builtin.lenOf,Builtin.firstCells,hn,h1,hst]
section
variable {B:Nat} {W w:World} {L:List aai} {A A2:Option Addr} {n c c2 i:Nat} {X Y:List Value}
theorem aAD {b o vb vo:Nat} {Z:List Value} {cb:Nat} (s:Sat B w (pts b o Z::pts vb vo Y::L)) (hY:Y.length=3) (hZ:(n+1)*3≤Z.length) (hi:i<n) :
  (callFunc 146 #[.slice (some ⟨vb,vo,none⟩) 1 c2,.slice (some ⟨b,o+(i+1)*3,none⟩) (n-i) cb]).run Tryz.prog w=.ok (.value (.bool false)) w:=by
 have hv:=s.drop.cell (i:=0) (v:=Y[0]'(by omega)) (List.getElem?_eq_getElem _)
 have hb:=s.cell (i:=0) (v:=Z[0]'(by omega)) (List.getElem?_eq_getElem _)
 have tv:=s.drop.tame (i:=0) (v:=Y[0]'(by omega)) (List.getElem?_eq_getElem _)
 have sh:∀ {b o:Nat} {v:Value},w.cell? ⟨b,o,none⟩=some v→∃ t k,w.shape? b=some (t,k)∧k≠0:=fun {b o v} h =>by
  unfold World.cell? at h
  unfold World.shape?
  cases hh:w.heap[b]? with
  | none =>rw [hh] at h; cases h
  | some x =>
   rw [hh] at h
   cases x<;>simp at h ⊢
   rename_i cs el fr
   have hlt:=(Array.getElem?_eq_some_iff.1 h).1
   exact ⟨el,cs.size,⟨rfl,rfl⟩,by omega⟩
 obtain ⟨tA,kA,s1,_⟩:=sh hv.2.1
 obtain ⟨tB,kB,s2,s3⟩:=sh hb.2.1
 rw [run_callFunc_extern Tryz.func146 (by kernel_rfl) (by kernel_rfl) (by kernel_rfl) (e:=Extern.SlicesOverlaps.overlaps #[117,117] #[4]) (by kernel_rfl)]
 by_cases hne:vb=b
 ·subst hne
  have hno:¬ (vo<o+(i+1)*3+(n-i)*3∧o+(i+1)*3<vo+3):=fun ⟨q1,q2⟩ =>by
   obtain ⟨h,H,k1,k2,a,e,hA,hL⟩:=s
   obtain ⟨k3,k4,a',e',hA',_⟩:=hL
   have key:∀ x,vo≤x→x<vo+3→o≤x→x<o+(n+1)*3→False:=fun x p1 p2 p3 p4 =>by
    have c1:=hA (x-o) _ (List.getElem?_eq_getElem (by omega))
    have c2:=hA' (x-vo) _ (List.getElem?_eq_getElem (by omega))
    rw [show o+(x-o)=x by omega] at c1
    rw [show vo+(x-vo)=x by omega] at c2
    have c3:k2 vb x=some (.cell (Y[x-vo]'(by omega))):=by rw [e']; unfold acI; rw [c2]
    rcases a vb x with h1 | h1 | ⟨v,h1,_⟩
    ·rw [h1] at c1; cases c1
    ·rw [h1] at c3; cases c3
    ·rw [h1] at c1; cases c1
   by_cases hx:vo≤o+(i+1)*3
   ·exact key (o+(i+1)*3) hx q2 (by omega) (by omega)
   ·exact key vo (Nat.le_refl _) (by omega) (by omega) (by omega)
  have u1:=aoc
  have u2:=arW
  have hni:¬ (n-i=0):=by omega
  have:(Extern.SlicesOverlaps.overlaps #[117,117] #[4] #[.slice (some ⟨vb,vo,none⟩) 1 c2,.slice (some ⟨vb,o+(i+1)*3,none⟩) (n-i) cb]).run Tryz.prog w=.ok (.bool false) w:=by
   delta Extern.SlicesOverlaps.overlaps
   delta Extern.SlicesOverlaps.overlaps.match_4
   simp [u1,u2,hni]
   delta Extern.SlicesOverlaps.overlaps._sparseCasesOn_4
   simp only [Array.getLit]
   simp [u1,u2,hni]
   omega
  rw [this]; rfl
 ·rw [Lib.run_overlaps_apart w 117 4 174 Tryz.underlying117 3 arW ⟨vb,vo,none⟩ ⟨b,o+(i+1)*3,none⟩ 1 c2 (n-i) cb hne tA tB kA kB s1 s2 s3 hv.2.2 (tv tA kA s1)]
  rfl
theorem aAE (s:Sat B w (adq A n c 3 X::adq A2 1 c2 3 Y::L)) (hb:Below B W w) (hl:B≤w.heap.size) (hX:X.all acl=true) (hY:Y.all acl=true) (hi:i≤n) (hn:n≤1000000) :
  Calls Tryz.prog 98 #[.slice A n c,.int .i64 i,.slice A2 1 c2] w fun e w' =>∃ A' c',e=.returned (.slice A' (n+1) c')∧Cls B W (adq A' (n+1) c' 3 (X.take (i*3)++Y++X.drop (i*3))::L) w':=by
 obtain ⟨hXl,hnc,hcm,hA⟩:=adt s (List.mem_cons_self ..)
 obtain ⟨h0,H0,k1,k2,ap,e,hr1,hL⟩:=s
 obtain ⟨k3,k4,ap2,e2,⟨hYl,hc1,hcm2,hA2⟩,hL2⟩:=hL
 rcases hA2 with ⟨_,rfl⟩ | ⟨vb,vo,sp2,rfl,hsp2,hp2⟩
 ·omega
 have hY3:Y.length=3:=by omega
 have s:Sat B w (adq A n c 3 X::pts vb vo Y::L):=⟨h0,H0,k1,k2,ap,e,hr1,k3,k4,ap2,e2,(ahq hp2).1,hL2⟩
 have sv:Sat B w (pts vb vo Y::L):=s.drop
 obtain ⟨y0,hy0⟩:∃ y,Y[0]?=some y:=⟨Y[0]'(by omega),List.getElem?_eq_getElem _⟩
 have hYc:∀ j u,Y[j]?=some u→w.cell? ((⟨vb,vo,none⟩:Addr).add j)=some u:=fun j u hj =>by rw [abL]; exact (sv.cell hj).2.1
 by_cases hin:i=n
 ·subst hin
  obtain ⟨inf,f1,f2,f3,f4⟩:=at3
  obtain ⟨A',c',w',h1,h2⟩:=ajA (P:=Tryz.prog) (ty:=117) (c:=c2) (k:=1) (sz:=3) (z:=.agg #[.int .i64 0,.int .i64 0,.int .i64 0]) (by_:=24) Tryz.underlying117 ⟨inf,f1,f2,f3,f4⟩ rfl (by decide) s hb hl (by omega) hY (by decide) (by unfold maxLen; omega) (by omega)
  refine (ayH A i c vb vo c2 _ w w' hnc (by unfold maxLen at hcm; omega) (fun e =>?_) (fun ty =>h1)).mono fun e w2 ⟨he,hw⟩ =>?_
  ·rcases hA with ⟨_,h⟩ | ⟨b,o,h,_⟩
   ·omega
   ·rw [h] at e; cases e
  ·subst hw
   refine ⟨A',c',he,h2.1,h2.2.1,?_⟩
   have e1:X.take (i*3)++Y++X.drop (i*3)=X++Y:=by
    rw [List.take_of_length_le (by omega),List.drop_eq_nil_of_le (by omega),List.append_nil]
   rw [e1]
   obtain ⟨q0,Q,q1,q2,qa,qe,g1,g2⟩:=h2.2.2
   exact Sat.perm (L:=[adq A' (i+1) c' 3 (X++Y),pts vb vo Y]++L) ⟨q0,Q,q1,q2,qa,qe,g1,g2⟩ (List.Perm.refl _) |>.imp fun h =>abz fun h hh =>by
    obtain ⟨_,_,ap,e,_,hM⟩:=hh
    have:abG ([]++L) h:=aap.2 ⟨_,_,ap,e,trivial,hM⟩
    exact this
 ·have hlt:i<n:=by omega
  rcases hA with ⟨_,h⟩ | ⟨b,o,rfl,hcells⟩
  ·omega
  obtain ⟨q0,Q,q1,q2,qa,qe,⟨_,_,_,hA⟩,qL⟩:=s
  rcases hA with ⟨h,_⟩ | ⟨b',o',sp,he,hsp,hp⟩
  ·cases h
  obtain ⟨rfl,rfl⟩:b=b'∧o=o':=by
   have:=Option.some.inj he; exact ⟨congrArg Addr.block this,congrArg Addr.off this⟩
  have s:Sat B w (pts b o (X++sp)::pts vb vo Y::L):=⟨q0,Q,q1,q2,qa,qe,hp,qL⟩
  have hXd:(X.drop (i*3)).length=(n-i)*3:=by rw [List.length_drop,hXl]; omega
  have hXda:(X.drop (i*3)).all acl=true:=List.all_eq_true.2 fun u hu =>List.all_eq_true.1 hX u (List.mem_of_mem_drop hu)
  by_cases hroom:n+1≤c
  ·have hspl:3≤sp.length:=by
    rw [hsp]
    have:1≤c-n:=by omega
    omega
   have sd:=s.below (w':=w.drew) ((Below.refl _ _).drew)
   obtain ⟨W1,g1,g2⟩:=ach (P:=Tryz.prog) (W:=W) (b:=b) (o:=o) (o':=o+(i+1)*3) (X.drop (i*3)) 0 ((i+1)*3) (X++sp) w.drew _ (by omega) hXda (by rw [hXd,List.length_append,hXl]; omega) sd hb.drew (by simpa using hl)
   obtain ⟨W2,g3,g4⟩:=ach (P:=Tryz.prog) (W:=W) (b:=b) (o:=o) (o':=o+i*3) Y 0 (i*3) _ W1 _ (by omega) hY (by simp only [List.length_append,List.length_take,List.length_drop,hXl,hY3]; omega) g2.2.2 g2.1 g2.2.1
   have ov:∀ cb,(callFunc 146 #[.slice (some ⟨vb,vo,none⟩) 1 c2,.slice (some ⟨b,o+(i+1)*3,none⟩) (n-i) cb]).run Tryz.prog w=.ok (.value (.bool false)) w:=fun cb =>aAD s hY3 (by rw [List.length_append,hXl]; omega) hlt
   refine (aua b o n c i vb vo c2 (goInt ((n-i:Nat):Int)) (goInt 1) w W1 W2 hlt hroom (by unfold maxLen at hcm; omega) ov (fun ty dc sc =>?_) (fun ty dc =>?_)).mono fun e w2 ⟨he,hw⟩ =>?_
   ·refine akg (n:=n-i) (sLen:=n+1-i) (dLen:=n+1-(i+1)) (by simp only [Nat.min_def]; split<;>omega) (fun j u hj =>?_) hXd g1
    rw [abL,Nat.add_assoc]
    refine (sd.cell ?_).2.1
    rw [List.getElem?_drop] at hj
    rw [List.getElem?_append_left (List.getElem?_eq_some_iff.1 hj).1]
    exact hj
   ·refine akg (n:=1) (sLen:=1) (dLen:=n+1-i) (by simp only [Nat.min_def]; split<;>omega) (fun j u hj =>?_) (by omega) g3
    rw [abL]
    exact (g2.2.2.drop.cell hj).2.1
   ·subst hw
    refine ⟨some ⟨b,o,none⟩,c,he,g4.1,g4.2.1,?_⟩
    have s3:=g4.2.2
    refine s3.imp fun h =>fun hh =>?_
    obtain ⟨a1,a2,a3,a4,a5,a6⟩:=hh
    obtain ⟨_,_,b1,b2,_,b3⟩:=a6
    have b4:abG L a2:=by
     have:abG ([]++L) a2:=aap.2 ⟨_,_,b1,b2,trivial,b3⟩
     exact this
    refine ⟨a1,a2,a3,a4,⟨?_,hroom,hcm,.inr ⟨b,o,sp.drop 3,rfl,?_,?_⟩⟩,b4⟩
    ·simp only [List.length_append,List.length_take,List.length_drop,hXl,hY3]; omega
    ·rw [List.length_drop,hsp]; omega
    ·have e1:((X++sp).take ((i+1)*3)++X.drop (i*3)++(X++sp).drop ((i+1)*3+(X.drop (i*3)).length)).take (i*3)=X.take (i*3):=by
      rw [List.append_assoc,List.take_append_of_le_length (by rw [List.length_take,List.length_append,hXl]; omega),List.take_take,Nat.min_eq_left (by omega),List.take_append_of_le_length (by omega)]
     have e2:((X++sp).take ((i+1)*3)++X.drop (i*3)++(X++sp).drop ((i+1)*3+(X.drop (i*3)).length)).drop (i*3+Y.length)=X.drop (i*3)++sp.drop 3:=by
      have l1:((X++sp).take ((i+1)*3)).length=i*3+Y.length:=by rw [List.length_take,List.length_append,hXl]; omega
      rw [List.append_assoc,← l1,List.drop_left,hXd]
      congr 1
      rw [List.drop_append,List.drop_eq_nil_of_le (by omega),List.nil_append]
      congr 1
      omega
     rw [e1,e2] at a5
     simpa [List.append_assoc] using a5
  ·obtain ⟨inf,f1,f2,f3,f4⟩:=at3
   have sd:=s.below (w':=w.drew) ((Below.refl _ _).drew)
   have hXt:(X.take (i*3)).length=i*3:=by rw [List.length_take,hXl]; omega
   have hold:(Builtin.firstCells inf.size i (.slice (some ⟨b,o,none⟩) i c)).run Tryz.prog w.drew=.ok (X.take (i*3)).toArray w.drew:=by
    rw [f3]
    refine run_firstCells_some w.drew 3 i ⟨b,o,none⟩ i c (X.take (i*3)) hXt fun j v hj =>?_
    rw [abL]
    refine (sd.cell ?_).2.1
    rw [List.getElem?_take] at hj
    split at hj
    ·rw [List.getElem?_append_left (List.getElem?_eq_some_iff.1 hj).1]; exact hj
    ·cases hj
   have hik:i+(n+1-i)=n+1:=by omega
   have hG:=grownCap_ge w (n+1) c 174
   have hGm:=grownCap_le_maxLen w (n+1) c 174 (by unfold maxLen; omega)
   obtain ⟨G,hGe⟩:∃ G,grownCap w (n+1) c 174=G:=⟨_,rfl⟩
   have hrz:∀ ty,(Builtin.append_ #[117,3] ty #[.slice (some ⟨b,o,none⟩) i c,.int .i64 ((n:Int)+1-(i:Int))]).run Tryz.prog w=.ok (.slice (some ⟨w.heap.size,0,none⟩) (n+1) G) (w.drew.alloc (.cells ((X.take (i*3)).toArray++Builtin.zeroCells #[.int .i64 0,.int .i64 0,.int .i64 0] (n+1-i)++Builtin.zeroCells #[.int .i64 0,.int .i64 0,.int .i64 0] (G-(n+1))) 174)):=fun ty =>by
    have h:=Lib.run_append_grow_zeros w 117 3 ty 174 inf _ .i64 .i64 Tryz.underlying117 Tryz.underlying3 f1 f2 (some ⟨b,o,none⟩) i c (X.take (i*3)) hold (n+1-i) (by omega) (by omega) (by omega) (by omega) (by rw [f4]; omega) (by rw [f4,hik]; exact growslice_fits (by omega) (by omega))
    rw [hik,hGe] at h
    rw [show ((n:Int)+1-(i:Int))=((n+1-i:Nat):Int) by omega]
    exact h
   rw [hGe] at hG hGm
   generalize hR:(X.take (i*3)).toArray++Builtin.zeroCells #[.int .i64 0,.int .i64 0,.int .i64 0] (n+1-i)++Builtin.zeroCells #[.int .i64 0,.int .i64 0,.int .i64 0] (G-(n+1))=ROW at hrz
   have hRs:ROW.toList.length=G*3:=by
    rw [← hR]
    simp [size_zeroCells,hXl]
    omega
   have hRt:ROW.toList.take (i*3)=X.take (i*3):=by
    rw [← hR]
    simp only [Array.toList_append,List.append_assoc]
    rw [List.take_append_of_le_length (by rw [hXt]; exact Nat.le_refl _),List.take_of_length_le (by rw [hXt]; exact Nat.le_refl _)]
   have s0:=sd.fresh (cs:=ROW) (T:=174) (by simpa using hl)
   have b0:=ac0 hb.drew (by simpa using hl) (.cells ROW 174)
   have l0:B≤(w.drew.alloc (.cells ROW 174)).heap.size:=by simpa using Nat.le_succ_of_le hl
   obtain ⟨W1,g1,g2⟩:=ach (P:=Tryz.prog) (W:=W) (b:=w.heap.size) (o:=0) (o':=i*3) Y 0 (i*3) ROW.toList _ _ (by omega) hY (by rw [hRs,hY3]; omega) s0 b0 l0
   have sd1:=g2.2.2.below (w':=W1.drew) ((Below.refl _ _).drew)
   obtain ⟨W2,g3,g4⟩:=ach (P:=Tryz.prog) (W:=W) (b:=w.heap.size) (o:=0) (o':=(i+1)*3) (X.drop (i*3)) 0 ((i+1)*3) _ W1.drew _ (by omega) hXda (by simp only [List.length_append,List.length_take,List.length_drop,hRs,hY3,hXl]; omega) sd1 g2.1.drew (by simpa using g2.2.1)
   refine (aws b o n c i vb vo c2 w.heap.size G (goInt 1) (goInt ((n-i:Nat):Int)) w _ W1 W2 hlt hnc (by omega) (by unfold maxLen at hcm; omega) (by omega) hG (by unfold maxLen at hGm; omega) hrz (fun ty =>?_) (fun ty =>?_)).mono fun e w2 ⟨he,hw⟩ =>?_
   ·refine akg (n:=1) (sLen:=1) (dLen:=n+1-i) (by simp only [Nat.min_def]; split<;>omega) (fun j u hj =>?_) (by omega) g1
    rw [abL]
    exact (s0.drop.drop.cell hj).2.1
   ·refine akg (n:=n-i) (sLen:=n-i) (dLen:=n+1-(i+1)) (by simp only [Nat.min_def]; split<;>omega) (fun j u hj =>?_) hXd g3
    rw [abL,Nat.add_assoc]
    refine (sd1.drop.cell ?_).2.1
    rw [List.getElem?_drop] at hj
    rw [List.getElem?_append_left (List.getElem?_eq_some_iff.1 hj).1]
    exact hj
   ·subst hw
    refine ⟨some ⟨w.heap.size,0,none⟩,G,he,g4.1,g4.2.1,?_⟩
    have s3:=g4.2.2
    refine s3.imp fun h =>fun hh =>?_
    obtain ⟨a1,a2,a3,a4,a5,a6⟩:=hh
    obtain ⟨_,_,b1,b2,_,b3⟩:=a6
    obtain ⟨_,_,b1',b2',_,b3'⟩:=b3
    have b4:abG L a2:=by
     have h1:abG ([]++L) _:=aap.2 ⟨_,_,b1',b2',trivial,b3'⟩
     have:abG ([]++L) a2:=aap.2 ⟨_,_,b1,b2,trivial,h1⟩
     exact this
    refine ⟨a1,a2,a3,a4,⟨?_,hG,hGm,.inr ⟨w.heap.size,0,(ROW.toList.take (i*3)++Y++ROW.toList.drop (i*3+Y.length)).drop ((n+1)*3),rfl,?_,?_⟩⟩,b4⟩
    ·simp only [List.length_append,List.length_take,List.length_drop,hXl,hY3]; omega
    ·simp only [List.length_append,List.length_take,List.length_drop,hRs,hY3]; omega
    ·have e1:(ROW.toList.take (i*3)++Y++ROW.toList.drop (i*3+Y.length)).take ((i+1)*3)=X.take (i*3)++Y:=by
      have l1:(ROW.toList.take (i*3)++Y).length=(i+1)*3:=by rw [List.length_append,List.length_take,hRs,hY3]; omega
      rw [← l1,List.take_left,hRt]
     have e2:(i+1)*3+(X.drop (i*3)).length=(n+1)*3:=by rw [hXd]; omega
     rw [e1,e2] at a5
     exact a5
end
theorem aqc {K:KT} {B:Nat} {w:World} {c:Nat} {xs:List (K.T c)} {v:Value} {L:List aai} (hc:K.pl c=true) (s:Sat B w (pcS K (.row c xs) v::L)):∃ A cap,v=.slice A xs.length cap∧Sat B w (adq A xs.length cap (K.sz c) (xs.flatMap (ad8 K c))::L):=by
 obtain ⟨h,Hh,k1,k2,a,e,h1,hL⟩:=s
 rw [aaU] at h1
 obtain ⟨A,cap,rfl,hr⟩:=h1
 rw [ab7] at hr
 obtain ⟨vss,q1,q2,a',e',g1,g2⟩:=hr
 have g3:abG (abN K (pcS K) c xs vss++[]) q2:=by simpa using g2
 obtain ⟨rfl,_⟩:=ajd hc g3
 rw [← List.flatMap_def] at g1
 refine ⟨A,cap,rfl,h,Hh,k1,k2,a,e,?_,hL⟩
 obtain ⟨r1,r2,r3,r4⟩:=g1
 refine ⟨r1,r2,r3,r4.imp id ?_⟩
 rintro ⟨b,o,spare,hA,hs,hp⟩
 refine ⟨b,o,spare,hA,hs,fun i v hi =>?_⟩
 rw [e']; unfold acI; rw [hp i v hi]
def ag6 (xs:List KyV) (i:Int) (ys:List KyV):Option ((List KyV×Unit)×Unit):=if ((0≤i∧i≤(xs.length:Int))∧xs.length≤1000000)∧ys.length=1 then some ((xs.take i.toNat++ys++xs.drop i.toNat,()),()) else none
noncomputable abbrev aid:Con SR1:=⟨98,[.sh (.row 68),.sh sI_,.sh (.row 68)],[.sh (.row 68)],fun x =>ag6 x.1 x.2.1 x.2.2.1⟩
theorem aui {α:Type} {enc:α→List Value} (h:∀ x,(enc x).length=3):∀ (xs:List α) (i:Nat),(xs.flatMap enc).take (i*3)=(xs.take i).flatMap enc
 | xs,0 =>by simp
 | [],i+1 =>by simp
 | x::xs,i+1 =>by
  rw [List.take_succ_cons,List.flatMap_cons,List.flatMap_cons,← aui h xs i,List.take_append,h x,List.take_of_length_le (by rw [h x]; omega),show (i+1)*3-3=i*3 by omega]
theorem auj {α:Type} {enc:α→List Value} (h:∀ x,(enc x).length=3):∀ (xs:List α) (i:Nat),(xs.flatMap enc).drop (i*3)=(xs.drop i).flatMap enc
 | xs,0 =>by simp
 | [],i+1 =>by simp
 | x::xs,i+1 =>by
  rw [List.drop_succ_cons,List.flatMap_cons,← auj h xs i,List.drop_append,h x,List.drop_eq_nil_of_le (by rw [h x]; omega),List.nil_append,show (i+1)*3-3=i*3 by omega]
theorem aon {α:Type} {enc:α→List Value} (h:∀ x,(enc x).all acl=true) (xs:List α):(xs.flatMap enc).all acl=true:=List.all_eq_true.2 fun u hu =>by
 obtain ⟨x,_,hx⟩:=List.mem_flatMap.1 hu
 exact List.all_eq_true.1 (h x) u hx
abbrev kyE:SR1.kt.T 68→List Value:=ad8 SR1.kt 68
theorem ky3:∀ x,(kyE x).length=3:=fun _ =>rfl
theorem kyS:∀ x,(kyE x).all acl=true:=fun _ =>rfl
theorem awq {B:Nat} {W w:World} {F:aai} {xs ys:List (SR1.kt.T 68)} {j:Nat} {v0 v1 v2:Value} (hb:Below B W w) (hB:B≤w.heap.size) (hj:j≤xs.length) (hxl:xs.length≤1000000) (hyl:ys.length=1)
  (hs:Sat B w (pcS SR1.kt (.row 68 xs) v0::pcS SR1.kt (.i .i64 (j:Int)) v1::pcS SR1.kt (.row 68 ys) v2::[F])) :
  Calls Tryz.prog 98 #[v0,v1,v2] w fun e w' =>∃ u,e=.returned u∧Cls B W (pcS SR1.kt (.row 68 (xs.take j++ys++xs.drop j)) u::[F]) w':=by
 obtain ⟨A,c,rfl,s1⟩:=aqc rfl hs
 have hv1:v1=.int .i64 j:=by
  obtain ⟨_,_,k1,k2,_,_,h1,_⟩:=s1.drop
  exact aaU.1 h1
 subst hv1
 have s2:Sat B w (pcS SR1.kt (.row 68 ys) v2::adq A xs.length c 3 (List.flatMap kyE xs)::[F]):=by
  obtain ⟨h,H,k1,k2,a,e,h1,hL⟩:=s1
  have hL':abG ([pcS SR1.kt (.i .i64 (j:Int)) (.int .i64 j)]++[pcS SR1.kt (.row 68 ys) v2,F]) k2:=hL
  exact (show Sat B w (adq A xs.length c 3 (List.flatMap kyE xs)::pcS SR1.kt (.row 68 ys) v2::[F]) from ⟨h,H,k1,k2,a,e,h1,adV hL'⟩).perm (List.Perm.swap ..)
 obtain ⟨A2,c2,rfl,s3⟩:=aqc rfl s2
 have s4:=s3.perm (List.Perm.swap ..)
 rw [hyl] at s4 ⊢
 have hk:=aAE (W:=W) (L:=[F]) (i:=j) s4 hb hB (aon kyS xs) (aon kyS ys) hj hxl
 refine hk.mono fun e w' ⟨A',c',he,h1,h2,h3⟩ =>?_
 have hlen:(xs.take j++ys++xs.drop j).length=xs.length+1:=by simp only [List.length_append,List.length_take,List.length_drop,hyl]; omega
 refine ⟨_,he,h1,h2,?_⟩
 have e1:(List.flatMap kyE xs).take (j*3)++List.flatMap kyE ys++(List.flatMap kyE xs).drop (j*3)=List.flatMap kyE (xs.take j++ys++xs.drop j):=by
  rw [aui ky3,auj ky3,List.flatMap_append,List.flatMap_append]
 rw [e1,← hlen] at h3
 have:=amk (S:=SR1) (c:=68) (fun _ =>rfl) h3
 rw [hlen] at this
 exact this
variable [Tb]
theorem aoh:CO Tryz.prog aid:=fun x out hx B W hg vs F w hw =>by
 obtain ⟨hb,hB,hs⟩:=hw
 obtain ⟨xs,i,ys,u⟩:=x
 have hx:ag6 xs i ys=some out:=hx
 unfold ag6 at hx
 split at hx
 case isFalse =>cases hx
 rename_i hn
 obtain ⟨⟨⟨hi0,hi1⟩,hxl⟩,hyl⟩:=hn
 cases hx
 show afZ Tryz.prog aid.f _ w _
 rw [aeo rfl]
 rcases vs with _ | ⟨v0,_ | ⟨v1,_ | ⟨v2,_ | ⟨v3,vs⟩⟩⟩⟩
 ·exact aa9 hs
 ·exact aa9 (show Sat B w (_::(fun _ =>False)::_) from hs).drop
 ·exact aa9 (show Sat B w (_::_::(fun _ =>False)::_) from hs).drop.drop
 ·obtain ⟨j,rfl⟩:∃ j:Nat,i=(j:Int):=⟨i.toNat,(Int.toNat_of_nonneg hi0).symm⟩
  exact (awq hb hB (Int.ofNat_le.1 hi1) hxl hyl hs).mono fun e w' ⟨u,he,hc⟩ =>⟨[u],he,hc⟩
 ·exact aa9 (show Sat B w (_::_::_::(fun _ =>False)::_) from hs).drop.drop.drop
end
section
open Go Go.RowKit
set_option maxRecDepth 100000
variable [Tb]
noncomputable def aiQ (y0:Int):Option ((Bool×Unit)×(Unit)) :=
 some ((decide (y0≠y0),()),())
noncomputable abbrev al2:Con SR1:=⟨179,[.sh sI_],[.sh .b],fun x =>aiQ x.1⟩
theorem apF:CO Tryz.prog al2:=aaC aaB Tryz.func179 [] trivial [] trivial (fun _ =>[]) [] fun x =>by kernel_rfl
noncomputable def aeR (y0:Int) (y1:Int):Option ((Int×Unit)×(Unit)) :=
 (aiQ y0).bind fun r1 =>
 (aiQ y1).bind fun r2 =>
 if r1.1.1=true then
  if r2.1.1=true then
   some ((0,()),())
  else
  some (((-1),()),())
 else
 if r2.1.1=true then
  some ((1,()),())
 else
 if y0<y1 then
  some (((-1),()),())
 else
 if y1<y0 then
  some ((1,()),())
 else
 some ((0,()),())
noncomputable abbrev ajT:Con SR1:=⟨145,[.sh sI_,.sh sI_],[.sh sI_],fun x =>aeR x.1 x.2.1⟩
theorem ana:CO Tryz.prog ajT:=aaC aaB Tryz.func145 [al2] ⟨apF,trivial⟩ [] trivial (fun _ =>[]) [] fun x =>by kernel_rfl
noncomputable def awT (y0:List Int):Option ((Int×Unit)×(Unit)) :=
 (lpF (σ:=Int×Unit) (β:=(Int×Unit)⊕((Int×Unit)×(Unit))) (fun self3 x1 =>
  if x1.1<((y0.length:Nat):Int) then
   if 0≤x1.1∧x1.1<((y0.length:Nat):Int) then
   if (aaf y0 x1.1)≠0 then
   Option.map Sum.inr (
   some ((aaf y0 x1.1,()),())
   )
   else
   self3 (wi (x1.1+1),())
   else none
  else
  some (Sum.inl (x1.1,()))
 ) 18446744073709551616 (0,())).bind fun z2 =>match z2 with
 | .inr o4 =>some o4
 | .inl z2 =>
 some ((0,()),())
noncomputable abbrev auJ:Con SR1:=⟨144,[.sh (.ro 1)],[.sh sI_],fun x =>awT x.1⟩
theorem awR:CO Tryz.prog auJ:=aaC aaB Tryz.func144 [] trivial [] trivial (fun _ =>[]) [(3,.loopR [.rg 8 sI_] 18446744073709551616 0)] fun x =>by kernel_rfl
noncomputable def adk (y0:KyV) (y1:KyV):Option ((Int×Unit)×(Unit)) :=
 (aeR y0.deadline y1.deadline).bind fun r1 =>
 if y1.task=y1.task then
  if y0.task=y0.task then
   if y1.arrival=y1.arrival then
   if y0.arrival=y0.arrival then
   (aeR y0.arrival y1.arrival).bind fun r2 =>
   if y1.task=y1.task then
   if y0.task=y0.task then
   (aeR y0.task y1.task).bind fun r3 =>
   (awT ([r1.1.1,r2.1.1,r3.1.1])).bind fun r4 =>
   some ((r4.1.1,()),())
   else none
   else none
   else none
   else none
  else none
 else none
noncomputable abbrev ahR:Con SR1:=⟨97,[.val 68,.val 68],[.sh sI_],fun x =>adk x.1 x.2.1⟩
theorem akC:CO Tryz.prog ahR:=aaC aaB Tryz.func97 [ajT,auJ] ⟨ana,awR,trivial⟩ [] trivial (fun _ =>[]) [] fun x =>by kernel_rfl
noncomputable def aaT (y0:CtP) (y1:Cfg) (y2:Ev):Option ((Bool×Unit)×(CtP×Unit)) :=
 if y2.kind=1 then
  ((
   if y2.other<0 then
   some (true,y0,())
   else
   if ((y1.subs.length:Nat):Int)≤y2.other then
   some (true,y0,())
   else
   some (decide (y1.heap≤((y0.keys.length:Nat):Int)),y0,())
  ):Option (Bool×CtP×Unit)).bind fun z1 =>
  if z1.1=true then
   some ((false,()),(z1.2.1,()))
  else
  if 0≤y2.other∧y2.other<((y1.subs.length:Nat):Int) then
   if y2.task=y2.task then
   if z1.2.1.count=z1.2.1.count then
   if ((acK y1.subs y2.other).deadline)=((acK y1.subs y2.other).deadline) then
   if y2.other=y2.other then
   ((
   (lpF (σ:=Int×Int×Unit) (β:=Int×Int×Unit) (fun self4 x2 =>
   if x2.1<x2.2.1 then
   if 0≤wi (Int.fdiv (wu (wi (x2.1+x2.2.1))) (2 ^ min (1:Int).toNat IntKind.u64.bits))∧wi (Int.fdiv (wu (wi (x2.1+x2.2.1))) (2 ^ min (1:Int).toNat IntKind.u64.bits))<((z1.2.1.keys.length:Nat):Int) then
   (adk (aeA z1.2.1.keys (wi (Int.fdiv (wu (wi (x2.1+x2.2.1))) (2 ^ min (1:Int).toNat IntKind.u64.bits)))) (⟨(acK y1.subs y2.other).deadline,z1.2.1.count,y2.task⟩:KyV)).bind fun r5 =>
   if r5.1.1<0 then
   self4 (wi ((wi (Int.fdiv (wu (wi (x2.1+x2.2.1))) (2 ^ min (1:Int).toNat IntKind.u64.bits)))+1),x2.2.1,())
   else
   self4 (x2.1,wi (Int.fdiv (wu (wi (x2.1+x2.2.1))) (2 ^ min (1:Int).toNat IntKind.u64.bits)),())
   else none
   else
   some (x2.1,x2.2.1,())
   ) 18446744073709551616 (0,((z1.2.1.keys.length:Nat):Int),())).bind fun z3 =>
   if z3.1<((z1.2.1.keys.length:Nat):Int) then
   if 0≤z3.1∧z3.1<((z1.2.1.keys.length:Nat):Int) then
   (adk (aeA z1.2.1.keys z3.1) (⟨(acK y1.subs y2.other).deadline,z1.2.1.count,y2.task⟩:KyV)).bind fun r6 =>
   some (z3.1,())
   else none
   else
   some (z3.1,())
   ):Option (Int×Unit)).bind fun z7 =>
   (ag6 z1.2.1.keys z7.1 ([(⟨(acK y1.subs y2.other).deadline,z1.2.1.count,y2.task⟩:KyV)])).bind fun r8 =>
   some ((true,()),((⟨r8.1.1,wi (z1.2.1.count+1)⟩:CtP),()))
   else none
   else none
   else none
   else none
  else none
 else
 if y2.kind=13 then
  ((
   if ((y0.keys.length:Nat):Int)=0 then
   some (true,y0,())
   else
   if 0≤(0:Int)∧(0:Int)<((y0.keys.length:Nat):Int) then
   some (decide (((aeA y0.keys 0).task)≠y2.task),y0,())
   else none
  ):Option (Bool×CtP×Unit)).bind fun z9 =>
  if z9.1=true then
   some ((false,()),(z9.2.1,()))
  else
  if 0≤(1:Int)∧(1:Int)≤((z9.2.1.keys.length:Nat):Int) then
   some ((true,()),((⟨z9.2.1.keys.drop ((1:Int):Int).toNat,z9.2.1.count⟩:CtP),()))
  else none
 else
 if y2.kind=2 then
  if y2.level≠1 then
   some ((true,()),(y0,()))
  else
  some ((decide (((y0.keys.length:Nat):Int)=y1.heap),()),(y0,()))
 else
 some ((true,()),(y0,()))
noncomputable abbrev afe:Con SR1:=⟨72,[.ref 69,.val 13,.val 2],[.sh .b],fun x =>aaT x.1 x.2.1 x.2.2.1⟩
noncomputable def ahC:List (Nat×Func):=[(96,Tryz.f96)]
theorem ahD:CO Tryz.prog afe:=aaC aaB Tryz.func72 [ahR,aid] ⟨akC,aoh,trivial⟩ ahC ⟨Tryz.func96,trivial⟩ (fun f =>(get [(96,[(3,.loop [.rg 9 sI_,.rg 10 sI_] 18446744073709551616 0)])] f).getD []) [(4,.cut [.rg 34 .b,.ob 0 69] [10,11,17,18]),(7,.cut [.rg 8 sI_] [0,10,11,17,18,36,37,44]),(11,.cut [.rg 95 .b,.ob 0 69] [10,11,17,18])] fun x =>by kernel_rfl
abbrev usL:List UseV:=([(⟨true,false,false,true,true,false⟩:UseV),(⟨false,false,false,true,false,true⟩:UseV),(⟨true,true,false,false,true,false⟩:UseV),(⟨true,false,false,false,false,false⟩:UseV),(⟨true,false,false,false,false,false⟩:UseV),(⟨true,true,false,false,false,false⟩:UseV),(⟨true,false,false,false,true,false⟩:UseV),(⟨true,true,false,false,false,false⟩:UseV),(⟨true,false,false,false,false,false⟩:UseV),(⟨true,false,false,false,false,false⟩:UseV),(⟨true,false,false,false,true,false⟩:UseV),(⟨true,false,false,false,true,false⟩:UseV),(⟨true,false,false,false,false,false⟩:UseV),(⟨true,false,true,false,true,false⟩:UseV),(⟨true,false,false,false,false,false⟩:UseV),(⟨false,false,false,false,false,false⟩:UseV),(⟨false,false,false,true,false,false⟩:UseV),(⟨false,false,true,false,false,false⟩:UseV),(⟨true,false,false,false,true,false⟩:UseV)]:List UseV)
noncomputable def aal (y0:SyP) (y1:Ev):Option ((Bool×Unit)×(SyP×Unit)) :=
 if y1.kind<1 then
  some ((false,()),(y0,()))
 else
 if ((usL.length:Nat):Int)<y1.kind then
  some ((false,()),(y0,()))
 else
 if 0≤wi (y1.kind-1)∧wi (y1.kind-1)<((usL.length:Nat):Int) then
  ((
   if (!((aoB usL (wi (y1.kind-1))).task))=true then
   if ¬ (y1.task=0) then
   some (true,y0,())
   else
   if (!((aoB usL (wi (y1.kind-1))).raw))=true then
   if (!((aoB usL (wi (y1.kind-1))).level))=true then
   some (decide (¬ (y1.level=0)),y0,())
   else
   if 0≤y1.level then
   some (decide (¬ (y1.level<y0.c.levels)),y0,())
   else
   some (true,y0,())
   else
   some (false,y0,())
   else
   if 0≤y1.task then
   if ¬ (y1.task<y0.c.tasks) then
   some (true,y0,())
   else
   if (!((aoB usL (wi (y1.kind-1))).raw))=true then
   if (!((aoB usL (wi (y1.kind-1))).level))=true then
   some (decide (¬ (y1.level=0)),y0,())
   else
   if 0≤y1.level then
   some (decide (¬ (y1.level<y0.c.levels)),y0,())
   else
   some (true,y0,())
   else
   some (false,y0,())
   else
   some (true,y0,())
  ):Option (Bool×SyP×Unit)).bind fun z1 =>
  if z1.1=true then
   some ((false,()),(z1.2.1,()))
  else
  if (aoB usL (wi (y1.kind-1))).ow=true then
   ((
   if 0≤y1.other then
   some (decide (¬ (y1.other<z1.2.1.c.workers)),z1.2.1,())
   else
   some (true,z1.2.1,())
   ):Option (Bool×SyP×Unit)).bind fun z2 =>
   if z2.1=true then
   some ((false,()),(z2.2.1,()))
   else
   if y1.kind=1 then
   if y1.kind=1 then
   some ((decide (y1.worker=z2.2.1.c.workers),()),(z2.2.1,()))
   else
   if y1.kind=18 then
   if 0≤y1.worker then
   some ((decide (y1.worker≤z2.2.1.c.workers),()),(z2.2.1,()))
   else
   some ((false,()),(z2.2.1,()))
   else
   if 0≤y1.worker then
   some ((decide (y1.worker<z2.2.1.c.workers),()),(z2.2.1,()))
   else
   some ((false,()),(z2.2.1,()))
   else
   if y1.kind=2 then
   some ((decide (y1.worker=z2.2.1.c.workers),()),(z2.2.1,()))
   else
   if y1.kind=18 then
   if 0≤y1.worker then
   some ((decide (y1.worker≤z2.2.1.c.workers),()),(z2.2.1,()))
   else
   some ((false,()),(z2.2.1,()))
   else
   if 0≤y1.worker then
   some ((decide (y1.worker<z2.2.1.c.workers),()),(z2.2.1,()))
   else
   some ((false,()),(z2.2.1,()))
  else
  if (!((aoB usL (wi (y1.kind-1))).other))=true then
   ((
   if (!((aoB usL (wi (y1.kind-1))).ot))=true then
   some (decide (¬ (y1.other=0)),z1.2.1,())
   else
   if 0≤y1.other then
   some (decide (¬ (y1.other<z1.2.1.c.tasks)),z1.2.1,())
   else
   some (true,z1.2.1,())
   ):Option (Bool×SyP×Unit)).bind fun z3 =>
   if z3.1=true then
   some ((false,()),(z3.2.1,()))
   else
   if y1.kind=1 then
   if y1.kind=1 then
   some ((decide (y1.worker=z3.2.1.c.workers),()),(z3.2.1,()))
   else
   if y1.kind=18 then
   if 0≤y1.worker then
   some ((decide (y1.worker≤z3.2.1.c.workers),()),(z3.2.1,()))
   else
   some ((false,()),(z3.2.1,()))
   else
   if 0≤y1.worker then
   some ((decide (y1.worker<z3.2.1.c.workers),()),(z3.2.1,()))
   else
   some ((false,()),(z3.2.1,()))
   else
   if y1.kind=2 then
   some ((decide (y1.worker=z3.2.1.c.workers),()),(z3.2.1,()))
   else
   if y1.kind=18 then
   if 0≤y1.worker then
   some ((decide (y1.worker≤z3.2.1.c.workers),()),(z3.2.1,()))
   else
   some ((false,()),(z3.2.1,()))
   else
   if 0≤y1.worker then
   some ((decide (y1.worker<z3.2.1.c.workers),()),(z3.2.1,()))
   else
   some ((false,()),(z3.2.1,()))
  else
  if y1.kind=1 then
   if y1.kind=1 then
   some ((decide (y1.worker=z1.2.1.c.workers),()),(z1.2.1,()))
   else
   if y1.kind=18 then
   if 0≤y1.worker then
   some ((decide (y1.worker≤z1.2.1.c.workers),()),(z1.2.1,()))
   else
   some ((false,()),(z1.2.1,()))
   else
   if 0≤y1.worker then
   some ((decide (y1.worker<z1.2.1.c.workers),()),(z1.2.1,()))
   else
   some ((false,()),(z1.2.1,()))
  else
  if y1.kind=2 then
   some ((decide (y1.worker=z1.2.1.c.workers),()),(z1.2.1,()))
  else
  if y1.kind=18 then
   if 0≤y1.worker then
   some ((decide (y1.worker≤z1.2.1.c.workers),()),(z1.2.1,()))
   else
   some ((false,()),(z1.2.1,()))
  else
  if 0≤y1.worker then
   some ((decide (y1.worker<z1.2.1.c.workers),()),(z1.2.1,()))
  else
  some ((false,()),(z1.2.1,()))
 else none
noncomputable abbrev afg:Con SR1:=⟨41,[.ref 72,.val 2],[.sh .b],fun x =>aal x.1 x.2.1⟩
noncomputable def ahG:List (Nat×Func):=[(69,Tryz.f69),(70,Tryz.f70),(71,Tryz.f71)]
theorem ahH:CO Tryz.prog afg:=aaC aaB Tryz.func41 [] trivial ahG ⟨Tryz.func69,Tryz.func70,Tryz.func71,trivial⟩ (fun _ =>[]) [(6,.cut [.rg 52 .b,.ob 0 72] [6,7,8,9]),(9,.cut [.rg 64 .b,.ob 0 72] [6,7,8,9]),(12,.cut [.rg 79 .b,.ob 0 72] [6,7,8,9])] fun x =>by kernel_rfl
noncomputable def aci (y0:WkP):Option ((Int×Unit)×(WkP×Unit)) :=
 if ((y0.stack.length:Nat):Int)=0 then
  some (((-1),()),(y0,()))
 else
 if 0≤wi (((y0.stack.length:Nat):Int)-1)∧wi (((y0.stack.length:Nat):Int)-1)<((y0.stack.length:Nat):Int) then
  some ((aaf y0.stack (wi (((y0.stack.length:Nat):Int)-1)),()),(y0,()))
 else none
noncomputable abbrev agx:Con SR1:=⟨75,[.ref 71],[.sh sI_],fun x =>aci x.1⟩
theorem ajh:CO Tryz.prog agx:=aaC aaB Tryz.func75 [] trivial [] trivial (fun _ =>[]) [] fun x =>by kernel_rfl
noncomputable def abT (y0:WkP):Option ((Bool×Unit)×(WkP×Unit)) :=
 if ((y0.stack.length:Nat):Int)=0 then
  some (((!y0.walks),()),(y0,()))
 else
 some ((false,()),(y0,()))
noncomputable abbrev afV:Con SR1:=⟨77,[.ref 71],[.sh .b],fun x =>abT x.1⟩
theorem aiJ:CO Tryz.prog afV:=aaC aaB Tryz.func77 [] trivial [] trivial (fun _ =>[]) [] fun x =>by kernel_rfl
noncomputable def ac3 (y0:TkP) (y1:Int):Option ((Int×Unit)×(TkP×Unit)) :=
 if y1<0 then
  some (((-1),()),(y0,()))
 else
 if ((y0.kids.length:Nat):Int)≤y1 then
  some (((-1),()),(y0,()))
 else
 if 0≤y1∧y1<((y0.kids.length:Nat):Int) then
  some ((aaf y0.kids y1,()),(y0,()))
 else none
noncomputable abbrev aey:Con SR1:=⟨99,[.ref 70,.sh sI_],[.sh sI_],fun x =>ac3 x.1 x.2.1⟩
theorem afW:CO Tryz.prog aey:=aaC aaB Tryz.func99 [] trivial [] trivial (fun _ =>[]) [] fun x =>by kernel_rfl
noncomputable def abo (y0:TkP):Option ((Ins×Bool×Unit)×(TkP×Unit)) :=
 (lpF (σ:=Ins×TkP×Unit) (β:=(Ins×TkP×Unit)⊕((Ins×Bool×Unit)×(TkP×Unit))) (fun self3 x1 =>
  if x1.2.1.at_<((x1.2.1.prog.length:Nat):Int) then
   if 0≤x1.2.1.at_∧x1.2.1.at_<((x1.2.1.prog.length:Nat):Int) then
   if ((acA x1.2.1.prog x1.2.1.at_).op)=((acA x1.2.1.prog x1.2.1.at_).op) then
   if ((acA x1.2.1.prog x1.2.1.at_).a)=((acA x1.2.1.prog x1.2.1.at_).a) then
   if ((acA x1.2.1.prog x1.2.1.at_).b)=((acA x1.2.1.prog x1.2.1.at_).b) then
   if x1.2.1.at_=x1.2.1.at_ then
   if ((acA x1.2.1.prog x1.2.1.at_).op)=1 then
   Option.map Sum.inr (
   some ((acA x1.2.1.prog x1.2.1.at_,true,()),(x1.2.1,()))
   )
   else
   if ((acA x1.2.1.prog x1.2.1.at_).op)=2 then
   (ac3 x1.2.1 ((acA x1.2.1.prog x1.2.1.at_).a)).bind fun r4 =>
   if r4.1.1≠(-1) then
   Option.map Sum.inr (
   some ((acA x1.2.1.prog x1.2.1.at_,true,()),(r4.2.1,()))
   )
   else
   self3 (x1.1,({ r4.2.1 with at_:=wi (r4.2.1.at_+1) }:TkP),())
   else
   self3 (x1.1,({ x1.2.1 with at_:=wi (x1.2.1.at_+1) }:TkP),())
   else none
   else none
   else none
   else none
   else none
  else
  some (Sum.inl (x1.1,x1.2.1,()))
 ) 18446744073709551616 ((⟨0,0,0⟩:Ins),y0,())).bind fun z2 =>match z2 with
 | .inr o5 =>some o5
 | .inl z2 =>
 some (((⟨0,0,0⟩:Ins),false,()),(z2.2.1,()))
noncomputable abbrev afx:Con SR1:=⟨76,[.ref 70],[.val 3,.sh .b],fun x =>abo x.1⟩
theorem ah7:CO Tryz.prog afx:=aaC aaB Tryz.func76 [aey] ⟨afW,trivial⟩ [] trivial (fun _ =>[]) [(1,.loopR [.rg 2 (.own 3),.ob 0 70] 18446744073709551616 0)] fun x =>by kernel_rfl
noncomputable def aan (ag:Option ((Bool×Unit)×(SyP×Unit))→Option ((Bool×Unit)×(SyP×Unit))→Option ((Bool×Unit)×(SyP×Unit))) (y0:SyP) (y1:Ev):Option ((Bool×Unit)×(SyP×Unit)) :=
 (aal y0 y1).bind fun r1 =>
 if (!r1.1.1)=true then
  some ((false,()),(r1.2.1,()))
 else
 if 0≤y1.worker∧y1.worker<((r1.2.1.works.length:Nat):Int) then
  if ((aam r1.2.1.works y1.worker).sleeps)≠(decide (y1.kind=17)) then
   some ((false,()),(({ r1.2.1 with works:=aa6 r1.2.1.works y1.worker }:SyP),()))
  else
  if y1.kind=12 then
   if 0≤y1.task∧y1.task<((r1.2.1.tasks.length:Nat):Int) then
   if r1.2.1.c.age<1 then
   some ((false,()),(({ r1.2.1 with works:=aa6 r1.2.1.works y1.worker }:SyP),()))
   else
   (abT (aam (aa6 r1.2.1.works y1.worker) y1.worker)).bind fun r2 =>
   if (!r2.1.1)=true then
   some ((false,()),(({ r1.2.1 with works:=(aa6 r1.2.1.works y1.worker).set y1.worker.toNat r2.2.1 }:SyP),()))
   else
   if ((aah r1.2.1.tasks y1.task).ph)=0 then
   some ((false,()),(({ r1.2.1 with tasks:=abD r1.2.1.tasks y1.task,works:=(aa6 r1.2.1.works y1.worker).set y1.worker.toNat r2.2.1 }:SyP),()))
   else
   if y1.level≠(wi (((aah r1.2.1.tasks y1.task).lv)+1)) then
   some ((false,()),(({ r1.2.1 with tasks:=abD r1.2.1.tasks y1.task,works:=(aa6 r1.2.1.works y1.worker).set y1.worker.toNat r2.2.1 }:SyP),()))
   else
   some ((true,()),(({ r1.2.1 with tasks:=ad3 r1.2.1.tasks y1.task (fun x =>{ x with lv:=y1.level }),works:=ad1 ((aa6 r1.2.1.works y1.worker).set y1.worker.toNat r2.2.1) y1.worker (fun x =>{ x with last:=y1 }) }:SyP),()))
   else none
  else
   if y1.kind=11 then
   if 0≤y1.task∧y1.task<((r1.2.1.tasks.length:Nat):Int) then
   if (!((aam r1.2.1.works y1.worker).walks))=true then
   some ((false,()),(({ r1.2.1 with works:=aa6 r1.2.1.works y1.worker }:SyP),()))
   else
   if 0≤y1.task∧y1.task<((r1.2.1.tasks.length:Nat):Int) then
   (lpF (σ:=Int×Unit) (β:=(Int×Unit)⊕((Bool×Unit)×(SyP×Unit))) (fun self5 x3 =>
   if x3.1≠(-1) then
   if x3.1=((aam r1.2.1.works y1.worker).walk) then
   Option.map Sum.inr (
   if y1.level≤((aah r1.2.1.tasks y1.task).lv) then
   some ((false,()),(({ r1.2.1 with tasks:=abD r1.2.1.tasks y1.task,works:=aa6 r1.2.1.works y1.worker }:SyP),()))
   else
   if 0≤(aam (aa6 r1.2.1.works y1.worker) y1.worker).walk∧(aam (aa6 r1.2.1.works y1.worker) y1.worker).walk<(((abD r1.2.1.tasks y1.task).length:Nat):Int) then
   if ((aah (abD r1.2.1.tasks y1.task) ((aam (aa6 r1.2.1.works y1.worker) y1.worker).walk)).lv)<y1.level then
   some ((false,()),(({ r1.2.1 with tasks:=abD (abD r1.2.1.tasks y1.task) ((aam (aa6 r1.2.1.works y1.worker) y1.worker).walk),works:=aa6 (aa6 r1.2.1.works y1.worker) y1.worker }:SyP),()))
   else
   if ((aam (aa6 r1.2.1.works y1.worker) y1.worker).up)≠(-1) then
   if ((aam (aa6 r1.2.1.works y1.worker) y1.worker).up)≠y1.level then
   some ((false,()),(({ r1.2.1 with tasks:=abD (abD r1.2.1.tasks y1.task) ((aam (aa6 r1.2.1.works y1.worker) y1.worker).walk),works:=aa6 (aa6 r1.2.1.works y1.worker) y1.worker }:SyP),()))
   else
   if y1.level=y1.level then
   some ((true,()),(({ r1.2.1 with tasks:=ad3 (abD (abD r1.2.1.tasks y1.task) ((aam (aa6 r1.2.1.works y1.worker) y1.worker).walk)) y1.task (fun x =>{ x with lv:=y1.level }),works:=ad1 (aa6 r1.2.1.works y1.worker) y1.worker (fun x =>{ x with up:=y1.level,last:=y1 }) }:SyP),()))
   else none
   else
   if y1.level=y1.level then
   some ((true,()),(({ r1.2.1 with tasks:=ad3 (abD (abD r1.2.1.tasks y1.task) ((aam (aa6 r1.2.1.works y1.worker) y1.worker).walk)) y1.task (fun x =>{ x with lv:=y1.level }),works:=ad1 (aa6 r1.2.1.works y1.worker) y1.worker (fun x =>{ x with up:=y1.level,last:=y1 }) }:SyP),()))
   else none
   else none
   )
   else
   if 0≤x3.1∧x3.1<((r1.2.1.tasks.length:Nat):Int) then
   self5 ((aah r1.2.1.tasks x3.1).pa,())
   else none
   else
   some (Sum.inl (x3.1,()))
   ) 18446744073709551616 ((aah r1.2.1.tasks y1.task).pa,())).bind fun z4 =>match z4 with
   | .inr o6 =>some o6
   | .inl z4 =>
   some ((false,()),(({ r1.2.1 with works:=aa6 r1.2.1.works y1.worker }:SyP),()))
   else none
   else none
   else
   if y1.kind=10 then
   (aci (aam (aa6 r1.2.1.works y1.worker) y1.worker)).bind fun r7 =>
   if y1.task=y1.task then
   if r7.1.1≠y1.task then
   some ((false,()),(({ r1.2.1 with works:=(aa6 r1.2.1.works y1.worker).set y1.worker.toNat r7.2.1 }:SyP),()))
   else
   if 0≤y1.task∧y1.task<((r1.2.1.tasks.length:Nat):Int) then
   ag (
   (abo (aah r1.2.1.tasks y1.task)).bind fun r9 =>
   if y1.task=y1.task then
   if r9.1.2.1=true then
   some ((false,()),(({ r1.2.1 with tasks:=r1.2.1.tasks.set y1.task.toNat r9.2.1,works:=(aa6 r1.2.1.works y1.worker).set y1.worker.toNat r7.2.1 }:SyP),()))
   else
   if 0≤y1.task∧y1.task<(((r1.2.1.tasks.set y1.task.toNat r9.2.1).length:Nat):Int) then
   if 0≤wi (((((aam ((aa6 r1.2.1.works y1.worker).set y1.worker.toNat r7.2.1) y1.worker).stack).length:Nat):Int)-1)∧wi (((((aam ((aa6 r1.2.1.works y1.worker).set y1.worker.toNat r7.2.1) y1.worker).stack).length:Nat):Int)-1)≤((((aam ((aa6 r1.2.1.works y1.worker).set y1.worker.toNat r7.2.1) y1.worker).stack).length:Nat):Int) then
   some ((true,()),(({ r1.2.1 with tasks:=ad3 (r1.2.1.tasks.set y1.task.toNat r9.2.1) y1.task (fun x =>{ x with ph:=4 }),works:=ad1 ((aa6 r1.2.1.works y1.worker).set y1.worker.toNat r7.2.1) y1.worker (fun x =>{ x with stack:=(x.stack).take (wi ((((x.stack).length:Nat):Int)-1):Int).toNat,last:=y1 }) }:SyP),()))
   else none
   else none
   else none
   ) (
   if y1.task=y1.task then
   (abo (aah r1.2.1.tasks y1.task)).bind fun r8 =>
   if r8.1.2.1=true then
   some ((false,()),(({ r1.2.1 with tasks:=r1.2.1.tasks.set y1.task.toNat r8.2.1,works:=(aa6 r1.2.1.works y1.worker).set y1.worker.toNat r7.2.1 }:SyP),()))
   else
   if 0≤y1.task∧y1.task<(((r1.2.1.tasks.set y1.task.toNat r8.2.1).length:Nat):Int) then
   if 0≤wi (((((aam ((aa6 r1.2.1.works y1.worker).set y1.worker.toNat r7.2.1) y1.worker).stack).length:Nat):Int)-1)∧wi (((((aam ((aa6 r1.2.1.works y1.worker).set y1.worker.toNat r7.2.1) y1.worker).stack).length:Nat):Int)-1)≤((((aam ((aa6 r1.2.1.works y1.worker).set y1.worker.toNat r7.2.1) y1.worker).stack).length:Nat):Int) then
   some ((true,()),(({ r1.2.1 with tasks:=ad3 (r1.2.1.tasks.set y1.task.toNat r8.2.1) y1.task (fun x =>{ x with ph:=4 }),works:=ad1 ((aa6 r1.2.1.works y1.worker).set y1.worker.toNat r7.2.1) y1.worker (fun x =>{ x with stack:=(x.stack).take (wi ((((x.stack).length:Nat):Int)-1):Int).toNat,last:=y1 }) }:SyP),()))
   else none
   else none
   else none
   )
   else none
   else none
   else
   if y1.kind=9 then
   if 0≤y1.task∧y1.task<((r1.2.1.tasks.length:Nat):Int) then
   if ((aah r1.2.1.tasks y1.task).ph)≠3 then
   some ((false,()),(({ r1.2.1 with tasks:=abD r1.2.1.tasks y1.task,works:=aa6 r1.2.1.works y1.worker }:SyP),()))
   else
   if 0≤(aah r1.2.1.tasks y1.task).wt∧(aah r1.2.1.tasks y1.task).wt<(((abD r1.2.1.tasks y1.task).length:Nat):Int) then
   if ((aah (abD r1.2.1.tasks y1.task) ((aah r1.2.1.tasks y1.task).wt)).ph)≠4 then
   some ((false,()),(({ r1.2.1 with tasks:=abD (abD r1.2.1.tasks y1.task) ((aah r1.2.1.tasks y1.task).wt),works:=aa6 r1.2.1.works y1.worker }:SyP),()))
   else
   (abT (aam (aa6 r1.2.1.works y1.worker) y1.worker)).bind fun r10 =>
   if (!r10.1.1)=true then
   if ((aam ((aa6 r1.2.1.works y1.worker).set y1.worker.toNat r10.2.1) y1.worker).last.kind)≠10 then
   some ((false,()),(({ r1.2.1 with tasks:=abD (abD r1.2.1.tasks y1.task) ((aah r1.2.1.tasks y1.task).wt),works:=aa6 ((aa6 r1.2.1.works y1.worker).set y1.worker.toNat r10.2.1) y1.worker }:SyP),()))
   else
   if ((aam ((aa6 r1.2.1.works y1.worker).set y1.worker.toNat r10.2.1) y1.worker).last.task)≠((aah (abD (abD r1.2.1.tasks y1.task) ((aah r1.2.1.tasks y1.task).wt)) y1.task).wt) then
   some ((false,()),(({ r1.2.1 with tasks:=abD (abD (abD r1.2.1.tasks y1.task) ((aah r1.2.1.tasks y1.task).wt)) y1.task,works:=aa6 ((aa6 r1.2.1.works y1.worker).set y1.worker.toNat r10.2.1) y1.worker }:SyP),()))
   else
   if 0≤y1.task∧y1.task<(((abD (abD (abD r1.2.1.tasks y1.task) ((aah r1.2.1.tasks y1.task).wt)) y1.task).length:Nat):Int) then
   if 0≤y1.task∧y1.task<(((ad3 (abD (abD (abD r1.2.1.tasks y1.task) ((aah r1.2.1.tasks y1.task).wt)) y1.task) y1.task (fun x =>{ x with ph:=2 })).length:Nat):Int) then
   if (((((aam ((aa6 r1.2.1.works y1.worker).set y1.worker.toNat r10.2.1) y1.worker).stack).length+([y1.task]:List Int).length:Nat)):Int)<1000000000000 then
   some ((true,()),(({ r1.2.1 with tasks:=ad3 (ad3 (abD (abD (abD r1.2.1.tasks y1.task) ((aah r1.2.1.tasks y1.task).wt)) y1.task) y1.task (fun x =>{ x with ph:=2 })) y1.task (fun x =>{ x with wt:=(-1) }),works:=ad1 ((aa6 r1.2.1.works y1.worker).set y1.worker.toNat r10.2.1) y1.worker (fun x =>{ x with stack:=(x.stack)++([y1.task]),last:=y1 }) }:SyP),()))
   else none
   else none
   else none
   else
   if 0≤y1.task∧y1.task<(((abD (abD r1.2.1.tasks y1.task) ((aah r1.2.1.tasks y1.task).wt)).length:Nat):Int) then
   if 0≤y1.task∧y1.task<(((ad3 (abD (abD r1.2.1.tasks y1.task) ((aah r1.2.1.tasks y1.task).wt)) y1.task (fun x =>{ x with ph:=2 })).length:Nat):Int) then
   if (((((aam ((aa6 r1.2.1.works y1.worker).set y1.worker.toNat r10.2.1) y1.worker).stack).length+([y1.task]:List Int).length:Nat)):Int)<1000000000000 then
   some ((true,()),(({ r1.2.1 with tasks:=ad3 (ad3 (abD (abD r1.2.1.tasks y1.task) ((aah r1.2.1.tasks y1.task).wt)) y1.task (fun x =>{ x with ph:=2 })) y1.task (fun x =>{ x with wt:=(-1) }),works:=ad1 ((aa6 r1.2.1.works y1.worker).set y1.worker.toNat r10.2.1) y1.worker (fun x =>{ x with stack:=(x.stack)++([y1.task]),last:=y1 }) }:SyP),()))
   else none
   else none
   else none
   else none
   else none
   else
   if y1.kind=8 then
   (aci (aam (aa6 r1.2.1.works y1.worker) y1.worker)).bind fun r11 =>
   if y1.task=y1.task then
   if r11.1.1≠y1.task then
   some ((false,()),(({ r1.2.1 with works:=(aa6 r1.2.1.works y1.worker).set y1.worker.toNat r11.2.1 }:SyP),()))
   else
   if 0≤y1.task∧y1.task<((r1.2.1.tasks.length:Nat):Int) then
   (abo (aah r1.2.1.tasks y1.task)).bind fun r12 =>
   if r12.1.2.1=true then
   if r12.1.1.op=2 then
   (ac3 (aah (r1.2.1.tasks.set y1.task.toNat r12.2.1) y1.task) r12.1.1.a).bind fun r13 =>
   if y1.other=y1.other then
   if ¬ (r13.1.1=y1.other) then
   some ((false,()),(({ r1.2.1 with tasks:=(r1.2.1.tasks.set y1.task.toNat r12.2.1).set y1.task.toNat r13.2.1,works:=(aa6 r1.2.1.works y1.worker).set y1.worker.toNat r11.2.1 }:SyP),()))
   else
   if 0≤y1.other∧y1.other<((((r1.2.1.tasks.set y1.task.toNat r12.2.1).set y1.task.toNat r13.2.1).length:Nat):Int) then
   if ((aah ((r1.2.1.tasks.set y1.task.toNat r12.2.1).set y1.task.toNat r13.2.1) y1.other).ph)≠4 then
   some ((false,()),(({ r1.2.1 with tasks:=abD ((r1.2.1.tasks.set y1.task.toNat r12.2.1).set y1.task.toNat r13.2.1) y1.other,works:=(aa6 r1.2.1.works y1.worker).set y1.worker.toNat r11.2.1 }:SyP),()))
   else
   if 0≤y1.task∧y1.task<(((abD ((r1.2.1.tasks.set y1.task.toNat r12.2.1).set y1.task.toNat r13.2.1) y1.other).length:Nat):Int) then
   if 0≤y1.task∧y1.task<(((abD (abD ((r1.2.1.tasks.set y1.task.toNat r12.2.1).set y1.task.toNat r13.2.1) y1.other) y1.task).length:Nat):Int) then
   some ((true,()),(({ r1.2.1 with tasks:=ad3 (abD (abD ((r1.2.1.tasks.set y1.task.toNat r12.2.1).set y1.task.toNat r13.2.1) y1.other) y1.task) y1.task (fun x =>{ x with at_:=wi (((aah (abD ((r1.2.1.tasks.set y1.task.toNat r12.2.1).set y1.task.toNat r13.2.1) y1.other) y1.task).at_)+1) }),works:=ad1 ((aa6 r1.2.1.works y1.worker).set y1.worker.toNat r11.2.1) y1.worker (fun x =>{ x with last:=y1 }) }:SyP),()))
   else none
   else none
   else none
   else none
   else
   some ((false,()),(({ r1.2.1 with tasks:=r1.2.1.tasks.set y1.task.toNat r12.2.1,works:=(aa6 r1.2.1.works y1.worker).set y1.worker.toNat r11.2.1 }:SyP),()))
   else
   some ((false,()),(({ r1.2.1 with tasks:=r1.2.1.tasks.set y1.task.toNat r12.2.1,works:=(aa6 r1.2.1.works y1.worker).set y1.worker.toNat r11.2.1 }:SyP),()))
   else none
   else none
   else
   if y1.kind=7 then
   if (!((aam r1.2.1.works y1.worker).walks))=true then
   some ((false,()),(({ r1.2.1 with works:=aa6 r1.2.1.works y1.worker }:SyP),()))
   else
   if ((aam r1.2.1.works y1.worker).walk)≠y1.task then
   some ((false,()),(({ r1.2.1 with works:=aa6 r1.2.1.works y1.worker }:SyP),()))
   else
   if y1.level<((aam r1.2.1.works y1.worker).low) then
   some ((false,()),(({ r1.2.1 with works:=aa6 r1.2.1.works y1.worker }:SyP),()))
   else
   if 0≤y1.task∧y1.task<((r1.2.1.tasks.length:Nat):Int) then
   if ((aah r1.2.1.tasks y1.task).lv)<y1.level then
   some ((false,()),(({ r1.2.1 with tasks:=abD r1.2.1.tasks y1.task,works:=aa6 r1.2.1.works y1.worker }:SyP),()))
   else
   if ((aam r1.2.1.works y1.worker).up)≠(-1) then
   if ((aam r1.2.1.works y1.worker).up)≠y1.level then
   some ((false,()),(({ r1.2.1 with tasks:=abD r1.2.1.tasks y1.task,works:=aa6 r1.2.1.works y1.worker }:SyP),()))
   else
   some ((true,()),(({ r1.2.1 with tasks:=abD r1.2.1.tasks y1.task,works:=ad1 r1.2.1.works y1.worker (fun x =>{ x with walks:=false,last:=y1 }) }:SyP),()))
   else
   some ((true,()),(({ r1.2.1 with tasks:=abD r1.2.1.tasks y1.task,works:=ad1 r1.2.1.works y1.worker (fun x =>{ x with walks:=false,last:=y1 }) }:SyP),()))
   else none
   else
   if y1.kind=6 then
   (aci (aam (aa6 r1.2.1.works y1.worker) y1.worker)).bind fun r14 =>
   if y1.task=y1.task then
   if r14.1.1≠y1.task then
   some ((false,()),(({ r1.2.1 with works:=(aa6 r1.2.1.works y1.worker).set y1.worker.toNat r14.2.1 }:SyP),()))
   else
   if 0≤y1.task∧y1.task<((r1.2.1.tasks.length:Nat):Int) then
   (abo (aah r1.2.1.tasks y1.task)).bind fun r15 =>
   if r15.1.2.1=true then
   if r15.1.1.op=2 then
   (ac3 (aah (r1.2.1.tasks.set y1.task.toNat r15.2.1) y1.task) r15.1.1.a).bind fun r16 =>
   if y1.other=y1.other then
   if ¬ (r16.1.1=y1.other) then
   some ((false,()),(({ r1.2.1 with tasks:=(r1.2.1.tasks.set y1.task.toNat r15.2.1).set y1.task.toNat r16.2.1,works:=(aa6 r1.2.1.works y1.worker).set y1.worker.toNat r14.2.1 }:SyP),()))
   else
   if 0≤y1.other∧y1.other<((((r1.2.1.tasks.set y1.task.toNat r15.2.1).set y1.task.toNat r16.2.1).length:Nat):Int) then
   if ((aah ((r1.2.1.tasks.set y1.task.toNat r15.2.1).set y1.task.toNat r16.2.1) y1.other).ph)=4 then
   some ((false,()),(({ r1.2.1 with tasks:=abD ((r1.2.1.tasks.set y1.task.toNat r15.2.1).set y1.task.toNat r16.2.1) y1.other,works:=(aa6 r1.2.1.works y1.worker).set y1.worker.toNat r14.2.1 }:SyP),()))
   else
   if 0≤y1.task∧y1.task<(((abD ((r1.2.1.tasks.set y1.task.toNat r15.2.1).set y1.task.toNat r16.2.1) y1.other).length:Nat):Int) then
   if y1.other=y1.other then
   if 0≤wi (((((aam ((aa6 r1.2.1.works y1.worker).set y1.worker.toNat r14.2.1) y1.worker).stack).length:Nat):Int)-1)∧wi (((((aam ((aa6 r1.2.1.works y1.worker).set y1.worker.toNat r14.2.1) y1.worker).stack).length:Nat):Int)-1)≤((((aam ((aa6 r1.2.1.works y1.worker).set y1.worker.toNat r14.2.1) y1.worker).stack).length:Nat):Int) then
   if y1.task=y1.task then
   some ((true,()),(({ r1.2.1 with tasks:=abD (ad3 (ad3 (ad3 (abD ((r1.2.1.tasks.set y1.task.toNat r15.2.1).set y1.task.toNat r16.2.1) y1.other) y1.task (fun x =>{ x with at_:=wi ((x.at_)+1) })) y1.task (fun x =>{ x with ph:=3 })) y1.task (fun x =>{ x with wt:=y1.other })) y1.task,works:=((aa6 r1.2.1.works y1.worker).set y1.worker.toNat r14.2.1).set y1.worker.toNat (⟨((aam ((aa6 r1.2.1.works y1.worker).set y1.worker.toNat r14.2.1) y1.worker).stack).take (wi (((((aam ((aa6 r1.2.1.works y1.worker).set y1.worker.toNat r14.2.1) y1.worker).stack).length:Nat):Int)-1):Int).toNat,true,y1.task,(aah (ad3 (ad3 (ad3 (abD ((r1.2.1.tasks.set y1.task.toNat r15.2.1).set y1.task.toNat r16.2.1) y1.other) y1.task (fun x =>{ x with at_:=wi ((x.at_)+1) })) y1.task (fun x =>{ x with ph:=3 })) y1.task (fun x =>{ x with wt:=y1.other })) y1.task).lv,(-1),(aam ((aa6 r1.2.1.works y1.worker).set y1.worker.toNat r14.2.1) y1.worker).sleeps,y1⟩:WkP) }:SyP),()))
   else none
   else none
   else none
   else none
   else none
   else none
   else
   some ((false,()),(({ r1.2.1 with tasks:=r1.2.1.tasks.set y1.task.toNat r15.2.1,works:=(aa6 r1.2.1.works y1.worker).set y1.worker.toNat r14.2.1 }:SyP),()))
   else
   some ((false,()),(({ r1.2.1 with tasks:=r1.2.1.tasks.set y1.task.toNat r15.2.1,works:=(aa6 r1.2.1.works y1.worker).set y1.worker.toNat r14.2.1 }:SyP),()))
   else none
   else none
   else
   if y1.kind=5 then
   if 0≤y1.task∧y1.task<((r1.2.1.tasks.length:Nat):Int) then
   if ((aah r1.2.1.tasks y1.task).ph)≠1 then
   some ((false,()),(({ r1.2.1 with tasks:=abD r1.2.1.tasks y1.task,works:=aa6 r1.2.1.works y1.worker }:SyP),()))
   else
   (abT (aam (aa6 r1.2.1.works y1.worker) y1.worker)).bind fun r17 =>
   if (!r17.1.1)=true then
   if ((aam ((aa6 r1.2.1.works y1.worker).set y1.worker.toNat r17.2.1) y1.worker).last.kind)≠3 then
   some ((false,()),(({ r1.2.1 with tasks:=abD r1.2.1.tasks y1.task,works:=aa6 ((aa6 r1.2.1.works y1.worker).set y1.worker.toNat r17.2.1) y1.worker }:SyP),()))
   else
   if ((aam ((aa6 r1.2.1.works y1.worker).set y1.worker.toNat r17.2.1) y1.worker).last.task)≠y1.task then
   some ((false,()),(({ r1.2.1 with tasks:=abD r1.2.1.tasks y1.task,works:=aa6 ((aa6 r1.2.1.works y1.worker).set y1.worker.toNat r17.2.1) y1.worker }:SyP),()))
   else
   if 0≤y1.task∧y1.task<(((abD r1.2.1.tasks y1.task).length:Nat):Int) then
   if 0≤y1.task∧y1.task<(((ad3 (abD r1.2.1.tasks y1.task) y1.task (fun x =>{ x with ph:=2 })).length:Nat):Int) then
   if (((((aam ((aa6 r1.2.1.works y1.worker).set y1.worker.toNat r17.2.1) y1.worker).stack).length+([y1.task]:List Int).length:Nat)):Int)<1000000000000 then
   some ((true,()),(({ r1.2.1 with tasks:=ad3 (ad3 (abD r1.2.1.tasks y1.task) y1.task (fun x =>{ x with ph:=2 })) y1.task (fun x =>{ x with wt:=(-1) }),works:=ad1 ((aa6 r1.2.1.works y1.worker).set y1.worker.toNat r17.2.1) y1.worker (fun x =>{ x with stack:=(x.stack)++([y1.task]),last:=y1 }) }:SyP),()))
   else none
   else none
   else none
   else
   if 0≤y1.task∧y1.task<(((abD r1.2.1.tasks y1.task).length:Nat):Int) then
   if 0≤y1.task∧y1.task<(((ad3 (abD r1.2.1.tasks y1.task) y1.task (fun x =>{ x with ph:=2 })).length:Nat):Int) then
   if (((((aam ((aa6 r1.2.1.works y1.worker).set y1.worker.toNat r17.2.1) y1.worker).stack).length+([y1.task]:List Int).length:Nat)):Int)<1000000000000 then
   some ((true,()),(({ r1.2.1 with tasks:=ad3 (ad3 (abD r1.2.1.tasks y1.task) y1.task (fun x =>{ x with ph:=2 })) y1.task (fun x =>{ x with wt:=(-1) }),works:=ad1 ((aa6 r1.2.1.works y1.worker).set y1.worker.toNat r17.2.1) y1.worker (fun x =>{ x with stack:=(x.stack)++([y1.task]),last:=y1 }) }:SyP),()))
   else none
   else none
   else none
   else none
   else
   if y1.kind=4 then
   if 0≤y1.task∧y1.task<((r1.2.1.tasks.length:Nat):Int) then
   (aci (aam (aa6 r1.2.1.works y1.worker) y1.worker)).bind fun r18 =>
   if y1.task=y1.task then
   if r18.1.1≠y1.task then
   some ((false,()),(({ r1.2.1 with works:=(aa6 r1.2.1.works y1.worker).set y1.worker.toNat r18.2.1 }:SyP),()))
   else
   if ¬ ((wi (r1.2.1.c.tasks-r1.2.1.c.workers))≤r1.2.1.known) then
   some ((false,()),(({ r1.2.1 with works:=(aa6 r1.2.1.works y1.worker).set y1.worker.toNat r18.2.1 }:SyP),()))
   else
   (abo (aah r1.2.1.tasks y1.task)).bind fun r19 =>
   if (!r19.1.2.1)=true then
   some ((false,()),(({ r1.2.1 with tasks:=r1.2.1.tasks.set y1.task.toNat r19.2.1,works:=(aa6 r1.2.1.works y1.worker).set y1.worker.toNat r18.2.1 }:SyP),()))
   else
   if r19.1.1.op≠1 then
   some ((false,()),(({ r1.2.1 with tasks:=r1.2.1.tasks.set y1.task.toNat r19.2.1,works:=(aa6 r1.2.1.works y1.worker).set y1.worker.toNat r18.2.1 }:SyP),()))
   else
   if (((((aah (r1.2.1.tasks.set y1.task.toNat r19.2.1) y1.task).kids).length+([(-1)]:List Int).length:Nat)):Int)<1000000000000 then
   some ((true,()),(({ r1.2.1 with tasks:=ad3 (r1.2.1.tasks.set y1.task.toNat r19.2.1) y1.task (fun x =>{ x with at_:=wi ((x.at_)+1),kids:=(x.kids)++([(-1)]) }),works:=ad1 ((aa6 r1.2.1.works y1.worker).set y1.worker.toNat r18.2.1) y1.worker (fun x =>{ x with last:=y1 }) }:SyP),()))
   else none
   else none
   else none
   else
   if y1.kind=3 then
   (aci (aam (aa6 r1.2.1.works y1.worker) y1.worker)).bind fun r20 =>
   if y1.other=y1.other then
   if r20.1.1≠y1.other then
   some ((false,()),(({ r1.2.1 with works:=(aa6 r1.2.1.works y1.worker).set y1.worker.toNat r20.2.1 }:SyP),()))
   else
   if 0≤y1.task∧y1.task<((r1.2.1.tasks.length:Nat):Int) then
   if ((aah r1.2.1.tasks y1.task).ph)≠0 then
   some ((false,()),(({ r1.2.1 with tasks:=abD r1.2.1.tasks y1.task,works:=(aa6 r1.2.1.works y1.worker).set y1.worker.toNat r20.2.1 }:SyP),()))
   else
   if 0≤y1.other∧y1.other<(((abD r1.2.1.tasks y1.task).length:Nat):Int) then
   (abo (aah (abD r1.2.1.tasks y1.task) y1.other)).bind fun r21 =>
   if (!r21.1.2.1)=true then
   some ((false,()),(({ r1.2.1 with tasks:=(abD r1.2.1.tasks y1.task).set y1.other.toNat r21.2.1,works:=(aa6 r1.2.1.works y1.worker).set y1.worker.toNat r20.2.1 }:SyP),()))
   else
   if r21.1.1.op≠1 then
   some ((false,()),(({ r1.2.1 with tasks:=(abD r1.2.1.tasks y1.task).set y1.other.toNat r21.2.1,works:=(aa6 r1.2.1.works y1.worker).set y1.worker.toNat r20.2.1 }:SyP),()))
   else
   if r21.1.1.b≠y1.level then
   some ((false,()),(({ r1.2.1 with tasks:=(abD r1.2.1.tasks y1.task).set y1.other.toNat r21.2.1,works:=(aa6 r1.2.1.works y1.worker).set y1.worker.toNat r20.2.1 }:SyP),()))
   else
   if (((((aah ((abD r1.2.1.tasks y1.task).set y1.other.toNat r21.2.1) y1.other).kids).length+([y1.task]:List Int).length:Nat)):Int)<1000000000000 then
   if 0≤r21.1.1.a∧r21.1.1.a<((r1.2.1.c.progs.length:Nat):Int) then
   if 0≤y1.task∧y1.task<(((ad3 ((abD r1.2.1.tasks y1.task).set y1.other.toNat r21.2.1) y1.other (fun x =>{ x with at_:=wi ((x.at_)+1),kids:=(x.kids)++([y1.task]) })).length:Nat):Int) then
   some ((true,()),(({ r1.2.1 with tasks:=(ad3 ((abD r1.2.1.tasks y1.task).set y1.other.toNat r21.2.1) y1.other (fun x =>{ x with at_:=wi ((x.at_)+1),kids:=(x.kids)++([y1.task]) })).set y1.task.toNat (⟨1,y1.level,y1.other,atL [] r1.2.1.c.progs r21.1.1.a,0,[],(-1)⟩:TkP),works:=ad1 ((aa6 r1.2.1.works y1.worker).set y1.worker.toNat r20.2.1) y1.worker (fun x =>{ x with last:=y1 }),known:=wi (r1.2.1.known+1) }:SyP),()))
   else none
   else none
   else none
   else none
   else none
   else none
   else
   if y1.kind=2 then
   if y1.other≠r1.2.1.offers then
   some ((false,()),(({ r1.2.1 with works:=aa6 r1.2.1.works y1.worker }:SyP),()))
   else
   if ((r1.2.1.c.subs.length:Nat):Int)≤y1.other then
   some ((false,()),(({ r1.2.1 with works:=aa6 r1.2.1.works y1.worker }:SyP),()))
   else
   if y1.level=1 then
   (aaT r1.2.1.queue r1.2.1.c y1).bind fun r22 =>
   if (!r22.1.1)=true then
   some ((false,()),(({ r1.2.1 with works:=aa6 r1.2.1.works y1.worker,queue:=r22.2.1 }:SyP),()))
   else
   some ((true,()),(({ r1.2.1 with works:=ad1 (aa6 r1.2.1.works y1.worker) y1.worker (fun x =>{ x with last:=y1 }),offers:=wi (r1.2.1.offers+1),queue:=r22.2.1 }:SyP),()))
   else
   if y1.level=2 then
   if r1.2.1.c.heap≤((r1.2.1.queue.keys.length:Nat):Int) then
   some ((false,()),(({ r1.2.1 with works:=aa6 r1.2.1.works y1.worker }:SyP),()))
   else
   if ¬ ((wi (r1.2.1.c.tasks-r1.2.1.c.workers))≤r1.2.1.known) then
   some ((false,()),(({ r1.2.1 with works:=aa6 r1.2.1.works y1.worker }:SyP),()))
   else
   some ((true,()),(({ r1.2.1 with works:=ad1 r1.2.1.works y1.worker (fun x =>{ x with last:=y1 }),offers:=wi (r1.2.1.offers+1) }:SyP),()))
   else
   some ((false,()),(({ r1.2.1 with works:=aa6 r1.2.1.works y1.worker }:SyP),()))
   else
   if y1.kind=1 then
   if y1.other≠r1.2.1.offers then
   some ((false,()),(({ r1.2.1 with works:=aa6 r1.2.1.works y1.worker }:SyP),()))
   else
   if ((r1.2.1.c.subs.length:Nat):Int)≤y1.other then
   some ((false,()),(({ r1.2.1 with works:=aa6 r1.2.1.works y1.worker }:SyP),()))
   else
   if 0≤y1.other∧y1.other<((r1.2.1.c.subs.length:Nat):Int) then
   if y1.level≠((acK r1.2.1.c.subs y1.other).level) then
   some ((false,()),(({ r1.2.1 with works:=aa6 r1.2.1.works y1.worker }:SyP),()))
   else
   if 0≤y1.task∧y1.task<((r1.2.1.tasks.length:Nat):Int) then
   if ((aah r1.2.1.tasks y1.task).ph)≠0 then
   some ((false,()),(({ r1.2.1 with tasks:=abD r1.2.1.tasks y1.task,works:=aa6 r1.2.1.works y1.worker }:SyP),()))
   else
   (aaT r1.2.1.queue r1.2.1.c y1).bind fun r23 =>
   if (!r23.1.1)=true then
   some ((false,()),(({ r1.2.1 with tasks:=abD r1.2.1.tasks y1.task,works:=aa6 r1.2.1.works y1.worker,queue:=r23.2.1 }:SyP),()))
   else
   if 0≤y1.other∧y1.other<((r1.2.1.c.subs.length:Nat):Int) then
   if 0≤(acK r1.2.1.c.subs y1.other).prog∧(acK r1.2.1.c.subs y1.other).prog<((r1.2.1.c.progs.length:Nat):Int) then
   if 0≤y1.task∧y1.task<(((abD r1.2.1.tasks y1.task).length:Nat):Int) then
   some ((true,()),((⟨r1.2.1.c,(abD r1.2.1.tasks y1.task).set y1.task.toNat (⟨1,y1.level,(-1),atL [] r1.2.1.c.progs ((acK r1.2.1.c.subs y1.other).prog),0,[],(-1)⟩:TkP),ad1 (aa6 r1.2.1.works y1.worker) y1.worker (fun x =>{ x with last:=y1 }),wi (r1.2.1.offers+1),wi (r1.2.1.known+1),r23.2.1⟩:SyP),()))
   else none
   else none
   else none
   else none
   else none
   else
   if 0≤y1.task∧y1.task<((r1.2.1.tasks.length:Nat):Int) then
   if y1.kind=13 then
   (abT (aam (aa6 r1.2.1.works y1.worker) y1.worker)).bind fun r24 =>
   if r24.1.1=true then
   (aaT r1.2.1.queue r1.2.1.c y1).bind fun r25 =>
   if (!r25.1.1)=true then
   some ((false,()),(({ r1.2.1 with tasks:=abD r1.2.1.tasks y1.task,works:=(aa6 r1.2.1.works y1.worker).set y1.worker.toNat r24.2.1,queue:=r25.2.1 }:SyP),()))
   else
   some ((true,()),(({ r1.2.1 with tasks:=abD r1.2.1.tasks y1.task,works:=ad1 ((aa6 r1.2.1.works y1.worker).set y1.worker.toNat r24.2.1) y1.worker (fun x =>{ x with last:=y1 }),queue:=r25.2.1 }:SyP),()))
   else
   some ((false,()),(({ r1.2.1 with tasks:=abD r1.2.1.tasks y1.task,works:=(aa6 r1.2.1.works y1.worker).set y1.worker.toNat r24.2.1 }:SyP),()))
   else
   if y1.kind=14 then
   (abT (aam (aa6 r1.2.1.works y1.worker) y1.worker)).bind fun r26 =>
   if r26.1.1=true then
   if y1.other≠y1.worker then
   if ¬ (((aah r1.2.1.tasks y1.task).ph)≠0) then
   some ((false,()),(({ r1.2.1 with tasks:=abD r1.2.1.tasks y1.task,works:=(aa6 r1.2.1.works y1.worker).set y1.worker.toNat r26.2.1 }:SyP),()))
   else
   some ((true,()),(({ r1.2.1 with tasks:=abD r1.2.1.tasks y1.task,works:=ad1 ((aa6 r1.2.1.works y1.worker).set y1.worker.toNat r26.2.1) y1.worker (fun x =>{ x with last:=y1 }) }:SyP),()))
   else
   some ((false,()),(({ r1.2.1 with tasks:=abD r1.2.1.tasks y1.task,works:=(aa6 r1.2.1.works y1.worker).set y1.worker.toNat r26.2.1 }:SyP),()))
   else
   some ((false,()),(({ r1.2.1 with tasks:=abD r1.2.1.tasks y1.task,works:=(aa6 r1.2.1.works y1.worker).set y1.worker.toNat r26.2.1 }:SyP),()))
   else
   if y1.kind=15 then
   if ((aah r1.2.1.tasks y1.task).ph)≠0 then
   if 0≤y1.task∧y1.task<(((abD r1.2.1.tasks y1.task).length:Nat):Int) then
   if ¬ (((aah (abD r1.2.1.tasks y1.task) y1.task).ph)≠1) then
   some ((false,()),(({ r1.2.1 with tasks:=abD (abD r1.2.1.tasks y1.task) y1.task,works:=aa6 r1.2.1.works y1.worker }:SyP),()))
   else
   some ((true,()),(({ r1.2.1 with tasks:=abD (abD r1.2.1.tasks y1.task) y1.task,works:=ad1 r1.2.1.works y1.worker (fun x =>{ x with last:=y1 }) }:SyP),()))
   else none
   else
   some ((false,()),(({ r1.2.1 with tasks:=abD r1.2.1.tasks y1.task,works:=aa6 r1.2.1.works y1.worker }:SyP),()))
   else
   if y1.kind=16 then
   (abT (aam (aa6 r1.2.1.works y1.worker) y1.worker)).bind fun r27 =>
   if (!((aam (ad1 ((aa6 r1.2.1.works y1.worker).set y1.worker.toNat r27.2.1) y1.worker (fun x =>{ x with sleeps:=r27.1.1 })) y1.worker).sleeps))=true then
   some ((false,()),(({ r1.2.1 with tasks:=abD r1.2.1.tasks y1.task,works:=ad1 ((aa6 r1.2.1.works y1.worker).set y1.worker.toNat r27.2.1) y1.worker (fun x =>{ x with sleeps:=r27.1.1 }) }:SyP),()))
   else
   some ((true,()),(({ r1.2.1 with tasks:=abD r1.2.1.tasks y1.task,works:=ad1 (ad1 ((aa6 r1.2.1.works y1.worker).set y1.worker.toNat r27.2.1) y1.worker (fun x =>{ x with sleeps:=r27.1.1 })) y1.worker (fun x =>{ x with last:=y1 }) }:SyP),()))
   else
   if y1.kind=17 then
   if y1.other≠1 then
   if ¬ (¬ (y1.other≠2)) then
   some ((false,()),(({ r1.2.1 with tasks:=abD r1.2.1.tasks y1.task,works:=ad1 r1.2.1.works y1.worker (fun x =>{ x with sleeps:=decide (y1.other≠2) }) }:SyP),()))
   else
   some ((true,()),(({ r1.2.1 with tasks:=abD r1.2.1.tasks y1.task,works:=ad1 r1.2.1.works y1.worker (fun x =>{ x with sleeps:=decide (y1.other≠2),last:=y1 }) }:SyP),()))
   else
   some ((true,()),(({ r1.2.1 with tasks:=abD r1.2.1.tasks y1.task,works:=ad1 r1.2.1.works y1.worker (fun x =>{ x with sleeps:=false,last:=y1 }) }:SyP),()))
   else
   if y1.kind=19 then
   if ¬ (((aah r1.2.1.tasks y1.task).ph)≠0) then
   some ((false,()),(({ r1.2.1 with tasks:=abD r1.2.1.tasks y1.task,works:=aa6 r1.2.1.works y1.worker }:SyP),()))
   else
   some ((true,()),(({ r1.2.1 with tasks:=abD r1.2.1.tasks y1.task,works:=ad1 r1.2.1.works y1.worker (fun x =>{ x with last:=y1 }) }:SyP),()))
   else
   some ((true,()),(({ r1.2.1 with tasks:=abD r1.2.1.tasks y1.task,works:=ad1 r1.2.1.works y1.worker (fun x =>{ x with last:=y1 }) }:SyP),()))
   else none
 else none
noncomputable abbrev adZ (y0:SyP) (y1:Ev):Option ((Bool×Unit)×(SyP×Unit)):=aan agr y0 y1
noncomputable def aaj (y0:SyP) (y1:Ev):Option ((Bool×Unit)×(SyP×Unit)):=aan (fun x _ =>x) y0 y1
noncomputable abbrev aeD:Con SR1:=⟨26,[.ref 72,.val 2],[.sh .b],fun x =>adZ x.1 x.2.1⟩
noncomputable def agZ:List (Nat×Func):=[(53,Tryz.f53),(52,Tryz.f52),(80,Tryz.f80),(51,Tryz.f51),(50,Tryz.f50),(78,Tryz.f78),(49,Tryz.f49),(79,Tryz.f79),(48,Tryz.f48),(47,Tryz.f47),(46,Tryz.f46),(45,Tryz.f45),(74,Tryz.f74),(44,Tryz.f44),(73,Tryz.f73),(43,Tryz.f43),(42,Tryz.f42),(54,Tryz.f54)]
theorem ag0:CO Tryz.prog aeD:=aaC aaB Tryz.func26 [afg,afV,agx,afx,aey,afe] ⟨ahH,aiJ,ajh,ah7,afW,ahD,trivial⟩ agZ ⟨Tryz.func53,Tryz.func52,Tryz.func80,Tryz.func51,Tryz.func50,Tryz.func78,Tryz.func49,Tryz.func79,Tryz.func48,Tryz.func47,Tryz.func46,Tryz.func45,Tryz.func74,Tryz.func44,Tryz.func73,Tryz.func43,Tryz.func42,Tryz.func54,trivial⟩ (fun f =>(get [(80,[(2,.loopR [.rg 7 sI_] 18446744073709551616 0)])] f).getD []) [] fun x =>by kernel_rfl
noncomputable abbrev afz:Con SR1:=⟨26,[.ref 72,.val 2],[.sh .b],fun x =>aaj x.1 x.2.1⟩
theorem aib (y0:SyP) (y1:Ev):adZ y0 y1=aaj y0 y1:=by
 unfold adZ aaj aan
 simp only [if_true,acL,ad9]
 try rfl
theorem aia:CO Tryz.prog afz:=apD ag0 fun x out hx =>(show aeD.spec x=some out from (aib x.1 x.2.1).trans hx)
noncomputable def acz (y0:SyP):Option ((List VwV×Unit)×(SyP×Unit)) :=
 (lpF (σ:=List VwV×Int×List TkP×(Int×Int×Int×Int×Int×Int×Int×Int×Int×List (List Ins)×List Sub×List WkP×Int×Int×List KyV×Int×Unit)×Unit) (β:=List VwV×Int×List TkP×(Int×Int×Int×Int×Int×Int×Int×Int×Int×List (List Ins)×List Sub×List WkP×Int×Int×List KyV×Int×Unit)×Unit) (fun self3 x1 =>
  if x1.2.1<((y0.tasks.length:Nat):Int) then
   if 0≤x1.2.1∧x1.2.1<((x1.2.2.1.length:Nat):Int) then
   if ((aah x1.2.2.1 x1.2.1).ph)=3 then
   if ((aah x1.2.2.1 x1.2.1).ph)=2 then
   (lpF (σ:=Int×List WkP×Unit) (β:=(Int×List WkP×Unit)⊕(List VwV×Int×List TkP×(Int×Int×Int×Int×Int×Int×Int×Int×Int×List (List Ins)×List Sub×List WkP×Int×Int×List KyV×Int×Unit)×Unit)) (fun self6 x4 =>
   if x4.1<((x1.2.2.2.1.2.2.2.2.2.2.2.2.2.2.2.1.length:Nat):Int) then
   if 0≤x4.1∧x4.1<((x4.2.1.length:Nat):Int) then
   (lpF (σ:=Int×Unit×Unit) (β:=(Int×Unit×Unit)⊕((Int×List WkP×Unit)⊕(List VwV×Int×List TkP×(Int×Int×Int×Int×Int×Int×Int×Int×Int×List (List Ins)×List Sub×List WkP×Int×Int×List KyV×Int×Unit)×Unit))) (fun self9 x7 =>
   if x7.1<((((aam x4.2.1 x4.1).stack).length:Nat):Int) then
   if 0≤x7.1∧x7.1<((((aam x4.2.1 x4.1).stack).length:Nat):Int) then
   if x1.2.1=(aaf ((aam x4.2.1 x4.1).stack) x7.1) then
   Option.map Sum.inr (
   if 0≤x7.1 then
   Option.map Sum.inr (
   if (((x1.1.length+([(⟨(aah x1.2.2.1 x1.2.1).ph,(aah x1.2.2.1 x1.2.1).lv,(aah x1.2.2.1 x1.2.1).pa,x4.1,(aah x1.2.2.1 x1.2.1).wt⟩:VwV)]:List VwV).length:Nat)):Int)<1000000000000 then
   self3 (x1.1++([(⟨(aah x1.2.2.1 x1.2.1).ph,(aah x1.2.2.1 x1.2.1).lv,(aah x1.2.2.1 x1.2.1).pa,x4.1,(aah x1.2.2.1 x1.2.1).wt⟩:VwV)]),wi (x1.2.1+1),x1.2.2.1.set x1.2.1.toNat (aah x1.2.2.1 x1.2.1),(x1.2.2.2.1.1,x1.2.2.2.1.2.1,x1.2.2.2.1.2.2.1,x1.2.2.2.1.2.2.2.1,x1.2.2.2.1.2.2.2.2.1,x1.2.2.2.1.2.2.2.2.2.1,x1.2.2.2.1.2.2.2.2.2.2.1,x1.2.2.2.1.2.2.2.2.2.2.2.1,x1.2.2.2.1.2.2.2.2.2.2.2.2.1,x1.2.2.2.1.2.2.2.2.2.2.2.2.2.1,x1.2.2.2.1.2.2.2.2.2.2.2.2.2.2.1,x4.2.1.set x4.1.toNat (aam x4.2.1 x4.1),x1.2.2.2.1.2.2.2.2.2.2.2.2.2.2.2.2.1,x1.2.2.2.1.2.2.2.2.2.2.2.2.2.2.2.2.2.1,x1.2.2.2.1.2.2.2.2.2.2.2.2.2.2.2.2.2.2.1,x1.2.2.2.1.2.2.2.2.2.2.2.2.2.2.2.2.2.2.2.1,()),())
   else none
   )
   else
   self6 (wi (x4.1+1),x4.2.1.set x4.1.toNat (aam x4.2.1 x4.1),())
   )
   else
   self9 (wi (x7.1+1),(),())
   else none
   else
   some (Sum.inl (x7.1,(),()))
   ) 18446744073709551616 (0,(),())).bind fun z8 =>match z8 with
   | .inr o10 =>some o10
   | .inl z8 =>
   self6 (wi (x4.1+1),x4.2.1.set x4.1.toNat (aam x4.2.1 x4.1),())
   else none
   else
   some (Sum.inl (x4.1,x4.2.1,()))
   ) 18446744073709551616 (0,x1.2.2.2.1.2.2.2.2.2.2.2.2.2.2.2.1,())).bind fun z5 =>match z5 with
   | .inr o11 =>some o11
   | .inl z5 =>
   if (((x1.1.length+([(⟨(aah x1.2.2.1 x1.2.1).ph,(aah x1.2.2.1 x1.2.1).lv,(aah x1.2.2.1 x1.2.1).pa,(-1),(aah x1.2.2.1 x1.2.1).wt⟩:VwV)]:List VwV).length:Nat)):Int)<1000000000000 then
   self3 (x1.1++([(⟨(aah x1.2.2.1 x1.2.1).ph,(aah x1.2.2.1 x1.2.1).lv,(aah x1.2.2.1 x1.2.1).pa,(-1),(aah x1.2.2.1 x1.2.1).wt⟩:VwV)]),wi (x1.2.1+1),x1.2.2.1.set x1.2.1.toNat (aah x1.2.2.1 x1.2.1),(x1.2.2.2.1.1,x1.2.2.2.1.2.1,x1.2.2.2.1.2.2.1,x1.2.2.2.1.2.2.2.1,x1.2.2.2.1.2.2.2.2.1,x1.2.2.2.1.2.2.2.2.2.1,x1.2.2.2.1.2.2.2.2.2.2.1,x1.2.2.2.1.2.2.2.2.2.2.2.1,x1.2.2.2.1.2.2.2.2.2.2.2.2.1,x1.2.2.2.1.2.2.2.2.2.2.2.2.2.1,x1.2.2.2.1.2.2.2.2.2.2.2.2.2.2.1,z5.2.1,x1.2.2.2.1.2.2.2.2.2.2.2.2.2.2.2.2.1,x1.2.2.2.1.2.2.2.2.2.2.2.2.2.2.2.2.2.1,x1.2.2.2.1.2.2.2.2.2.2.2.2.2.2.2.2.2.2.1,x1.2.2.2.1.2.2.2.2.2.2.2.2.2.2.2.2.2.2.2.1,()),())
   else none
   else
   if (((x1.1.length+([(⟨(aah x1.2.2.1 x1.2.1).ph,(aah x1.2.2.1 x1.2.1).lv,(aah x1.2.2.1 x1.2.1).pa,(-1),(aah x1.2.2.1 x1.2.1).wt⟩:VwV)]:List VwV).length:Nat)):Int)<1000000000000 then
   self3 (x1.1++([(⟨(aah x1.2.2.1 x1.2.1).ph,(aah x1.2.2.1 x1.2.1).lv,(aah x1.2.2.1 x1.2.1).pa,(-1),(aah x1.2.2.1 x1.2.1).wt⟩:VwV)]),wi (x1.2.1+1),x1.2.2.1.set x1.2.1.toNat (aah x1.2.2.1 x1.2.1),(x1.2.2.2.1.1,x1.2.2.2.1.2.1,x1.2.2.2.1.2.2.1,x1.2.2.2.1.2.2.2.1,x1.2.2.2.1.2.2.2.2.1,x1.2.2.2.1.2.2.2.2.2.1,x1.2.2.2.1.2.2.2.2.2.2.1,x1.2.2.2.1.2.2.2.2.2.2.2.1,x1.2.2.2.1.2.2.2.2.2.2.2.2.1,x1.2.2.2.1.2.2.2.2.2.2.2.2.2.1,x1.2.2.2.1.2.2.2.2.2.2.2.2.2.2.1,x1.2.2.2.1.2.2.2.2.2.2.2.2.2.2.2.1,x1.2.2.2.1.2.2.2.2.2.2.2.2.2.2.2.2.1,x1.2.2.2.1.2.2.2.2.2.2.2.2.2.2.2.2.2.1,x1.2.2.2.1.2.2.2.2.2.2.2.2.2.2.2.2.2.2.1,x1.2.2.2.1.2.2.2.2.2.2.2.2.2.2.2.2.2.2.2.1,()),())
   else none
   else
   if ((aah x1.2.2.1 x1.2.1).ph)=2 then
   (lpF (σ:=Int×List WkP×Unit) (β:=(Int×List WkP×Unit)⊕(List VwV×Int×List TkP×(Int×Int×Int×Int×Int×Int×Int×Int×Int×List (List Ins)×List Sub×List WkP×Int×Int×List KyV×Int×Unit)×Unit)) (fun self14 x12 =>
   if x12.1<((x1.2.2.2.1.2.2.2.2.2.2.2.2.2.2.2.1.length:Nat):Int) then
   if 0≤x12.1∧x12.1<((x12.2.1.length:Nat):Int) then
   (lpF (σ:=Int×Unit×Unit) (β:=(Int×Unit×Unit)⊕((Int×List WkP×Unit)⊕(List VwV×Int×List TkP×(Int×Int×Int×Int×Int×Int×Int×Int×Int×List (List Ins)×List Sub×List WkP×Int×Int×List KyV×Int×Unit)×Unit))) (fun self17 x15 =>
   if x15.1<((((aam x12.2.1 x12.1).stack).length:Nat):Int) then
   if 0≤x15.1∧x15.1<((((aam x12.2.1 x12.1).stack).length:Nat):Int) then
   if x1.2.1=(aaf ((aam x12.2.1 x12.1).stack) x15.1) then
   Option.map Sum.inr (
   if 0≤x15.1 then
   Option.map Sum.inr (
   if (((x1.1.length+([(⟨(aah x1.2.2.1 x1.2.1).ph,(aah x1.2.2.1 x1.2.1).lv,(aah x1.2.2.1 x1.2.1).pa,x12.1,(-1)⟩:VwV)]:List VwV).length:Nat)):Int)<1000000000000 then
   self3 (x1.1++([(⟨(aah x1.2.2.1 x1.2.1).ph,(aah x1.2.2.1 x1.2.1).lv,(aah x1.2.2.1 x1.2.1).pa,x12.1,(-1)⟩:VwV)]),wi (x1.2.1+1),x1.2.2.1.set x1.2.1.toNat (aah x1.2.2.1 x1.2.1),(x1.2.2.2.1.1,x1.2.2.2.1.2.1,x1.2.2.2.1.2.2.1,x1.2.2.2.1.2.2.2.1,x1.2.2.2.1.2.2.2.2.1,x1.2.2.2.1.2.2.2.2.2.1,x1.2.2.2.1.2.2.2.2.2.2.1,x1.2.2.2.1.2.2.2.2.2.2.2.1,x1.2.2.2.1.2.2.2.2.2.2.2.2.1,x1.2.2.2.1.2.2.2.2.2.2.2.2.2.1,x1.2.2.2.1.2.2.2.2.2.2.2.2.2.2.1,x12.2.1.set x12.1.toNat (aam x12.2.1 x12.1),x1.2.2.2.1.2.2.2.2.2.2.2.2.2.2.2.2.1,x1.2.2.2.1.2.2.2.2.2.2.2.2.2.2.2.2.2.1,x1.2.2.2.1.2.2.2.2.2.2.2.2.2.2.2.2.2.2.1,x1.2.2.2.1.2.2.2.2.2.2.2.2.2.2.2.2.2.2.2.1,()),())
   else none
   )
   else
   self14 (wi (x12.1+1),x12.2.1.set x12.1.toNat (aam x12.2.1 x12.1),())
   )
   else
   self17 (wi (x15.1+1),(),())
   else none
   else
   some (Sum.inl (x15.1,(),()))
   ) 18446744073709551616 (0,(),())).bind fun z16 =>match z16 with
   | .inr o18 =>some o18
   | .inl z16 =>
   self14 (wi (x12.1+1),x12.2.1.set x12.1.toNat (aam x12.2.1 x12.1),())
   else none
   else
   some (Sum.inl (x12.1,x12.2.1,()))
   ) 18446744073709551616 (0,x1.2.2.2.1.2.2.2.2.2.2.2.2.2.2.2.1,())).bind fun z13 =>match z13 with
   | .inr o19 =>some o19
   | .inl z13 =>
   if (((x1.1.length+([(⟨(aah x1.2.2.1 x1.2.1).ph,(aah x1.2.2.1 x1.2.1).lv,(aah x1.2.2.1 x1.2.1).pa,(-1),(-1)⟩:VwV)]:List VwV).length:Nat)):Int)<1000000000000 then
   self3 (x1.1++([(⟨(aah x1.2.2.1 x1.2.1).ph,(aah x1.2.2.1 x1.2.1).lv,(aah x1.2.2.1 x1.2.1).pa,(-1),(-1)⟩:VwV)]),wi (x1.2.1+1),x1.2.2.1.set x1.2.1.toNat (aah x1.2.2.1 x1.2.1),(x1.2.2.2.1.1,x1.2.2.2.1.2.1,x1.2.2.2.1.2.2.1,x1.2.2.2.1.2.2.2.1,x1.2.2.2.1.2.2.2.2.1,x1.2.2.2.1.2.2.2.2.2.1,x1.2.2.2.1.2.2.2.2.2.2.1,x1.2.2.2.1.2.2.2.2.2.2.2.1,x1.2.2.2.1.2.2.2.2.2.2.2.2.1,x1.2.2.2.1.2.2.2.2.2.2.2.2.2.1,x1.2.2.2.1.2.2.2.2.2.2.2.2.2.2.1,z13.2.1,x1.2.2.2.1.2.2.2.2.2.2.2.2.2.2.2.2.1,x1.2.2.2.1.2.2.2.2.2.2.2.2.2.2.2.2.2.1,x1.2.2.2.1.2.2.2.2.2.2.2.2.2.2.2.2.2.2.1,x1.2.2.2.1.2.2.2.2.2.2.2.2.2.2.2.2.2.2.2.1,()),())
   else none
   else
   if (((x1.1.length+([(⟨(aah x1.2.2.1 x1.2.1).ph,(aah x1.2.2.1 x1.2.1).lv,(aah x1.2.2.1 x1.2.1).pa,(-1),(-1)⟩:VwV)]:List VwV).length:Nat)):Int)<1000000000000 then
   self3 (x1.1++([(⟨(aah x1.2.2.1 x1.2.1).ph,(aah x1.2.2.1 x1.2.1).lv,(aah x1.2.2.1 x1.2.1).pa,(-1),(-1)⟩:VwV)]),wi (x1.2.1+1),x1.2.2.1.set x1.2.1.toNat (aah x1.2.2.1 x1.2.1),(x1.2.2.2.1.1,x1.2.2.2.1.2.1,x1.2.2.2.1.2.2.1,x1.2.2.2.1.2.2.2.1,x1.2.2.2.1.2.2.2.2.1,x1.2.2.2.1.2.2.2.2.2.1,x1.2.2.2.1.2.2.2.2.2.2.1,x1.2.2.2.1.2.2.2.2.2.2.2.1,x1.2.2.2.1.2.2.2.2.2.2.2.2.1,x1.2.2.2.1.2.2.2.2.2.2.2.2.2.1,x1.2.2.2.1.2.2.2.2.2.2.2.2.2.2.1,x1.2.2.2.1.2.2.2.2.2.2.2.2.2.2.2.1,x1.2.2.2.1.2.2.2.2.2.2.2.2.2.2.2.2.1,x1.2.2.2.1.2.2.2.2.2.2.2.2.2.2.2.2.2.1,x1.2.2.2.1.2.2.2.2.2.2.2.2.2.2.2.2.2.2.1,x1.2.2.2.1.2.2.2.2.2.2.2.2.2.2.2.2.2.2.2.1,()),())
   else none
   else none
  else
  some (x1.1,x1.2.1,x1.2.2.1,(x1.2.2.2.1.1,x1.2.2.2.1.2.1,x1.2.2.2.1.2.2.1,x1.2.2.2.1.2.2.2.1,x1.2.2.2.1.2.2.2.2.1,x1.2.2.2.1.2.2.2.2.2.1,x1.2.2.2.1.2.2.2.2.2.2.1,x1.2.2.2.1.2.2.2.2.2.2.2.1,x1.2.2.2.1.2.2.2.2.2.2.2.2.1,x1.2.2.2.1.2.2.2.2.2.2.2.2.2.1,x1.2.2.2.1.2.2.2.2.2.2.2.2.2.2.1,x1.2.2.2.1.2.2.2.2.2.2.2.2.2.2.2.1,x1.2.2.2.1.2.2.2.2.2.2.2.2.2.2.2.2.1,x1.2.2.2.1.2.2.2.2.2.2.2.2.2.2.2.2.2.1,x1.2.2.2.1.2.2.2.2.2.2.2.2.2.2.2.2.2.2.1,x1.2.2.2.1.2.2.2.2.2.2.2.2.2.2.2.2.2.2.2.1,()),())
 ) 18446744073709551616 ([],0,y0.tasks,(y0.c.workers,y0.c.levels,y0.c.classes,y0.c.tasks,y0.c.deque,y0.c.heap,y0.c.batch,y0.c.age,y0.c.patience,y0.c.progs,y0.c.subs,y0.works,y0.offers,y0.known,y0.queue.keys,y0.queue.count,()),())).bind fun z2 =>
 some ((z2.1,()),((⟨⟨z2.2.2.2.1.1,z2.2.2.2.1.2.1,z2.2.2.2.1.2.2.1,z2.2.2.2.1.2.2.2.1,z2.2.2.2.1.2.2.2.2.1,z2.2.2.2.1.2.2.2.2.2.1,z2.2.2.2.1.2.2.2.2.2.2.1,z2.2.2.2.1.2.2.2.2.2.2.2.1,z2.2.2.2.1.2.2.2.2.2.2.2.2.1,z2.2.2.2.1.2.2.2.2.2.2.2.2.2.1,z2.2.2.2.1.2.2.2.2.2.2.2.2.2.2.1⟩,z2.2.2.1,z2.2.2.2.1.2.2.2.2.2.2.2.2.2.2.2.1,z2.2.2.2.1.2.2.2.2.2.2.2.2.2.2.2.2.1,z2.2.2.2.1.2.2.2.2.2.2.2.2.2.2.2.2.2.1,⟨z2.2.2.2.1.2.2.2.2.2.2.2.2.2.2.2.2.2.2.1,z2.2.2.2.1.2.2.2.2.2.2.2.2.2.2.2.2.2.2.2.1⟩⟩:SyP),()))
noncomputable abbrev afy:Con SR1:=⟨27,[.ref 72],[.sh (.row 66)],fun x =>acz x.1⟩
noncomputable def ah8:List (Nat×Func):=[(55,Tryz.f55),(56,Tryz.f56),(57,Tryz.f57),(81,Tryz.f81)]
theorem ah9:CO Tryz.prog afy:=aaC aaB Tryz.func27 [] trivial ah8 ⟨Tryz.func55,Tryz.func56,Tryz.func57,Tryz.func81,trivial⟩ (fun f =>(get [(55,[(2,.loopR [.rg 8 sI_,.rw 15 71] 18446744073709551616 0)]),(81,[(2,.loopR [.rg 8 sI_,.kp] 18446744073709551616 0)])] f).getD []) [(3,.loop [.rg 3 (.row 66),.rg 12 sI_,.rw 1 70,.cx 0 [.inl sI_,.inl sI_,.inl sI_,.inl sI_,.inl sI_,.inl sI_,.inl sI_,.inl sI_,.inl sI_,.inl (.rr 3),.inl (.ro 4),.inr (.sl 1),.inl (.row 71),.inl sI_,.inl sI_,.inl (.row 68),.inl sI_]] 18446744073709551616 0)] fun x =>by kernel_rfl
noncomputable def aed (y0:Cfg):Option ((SyP×Unit)×(Unit)) :=
 if (wi (y0.workers+1))=(wi (y0.workers+1)) then
  if 0≤(wi (y0.workers+1))∧(wi (y0.workers+1))≤1099511627776 then
   if y0.workers=y0.workers then
   if y0.levels=y0.levels then
   if y0.classes=y0.classes then
   if y0.tasks=y0.tasks then
   if y0.deque=y0.deque then
   if y0.heap=y0.heap then
   if y0.batch=y0.batch then
   if y0.age=y0.age then
   if y0.patience=y0.patience then
   (lpF (σ:=Int×SyP×Unit) (β:=Int×SyP×Unit) (fun self3 x1 =>
   if x1.1<y0.tasks then
   if (((x1.2.1.tasks.length+([(⟨0,(-1),(-1),[],0,[],(-1)⟩:TkP)]:List TkP).length:Nat)):Int)<100000000000 then
   self3 (wi (x1.1+1),({ x1.2.1 with tasks:=x1.2.1.tasks++([(⟨0,(-1),(-1),[],0,[],(-1)⟩:TkP)]) }:SyP),())
   else none
   else
   some (x1.1,x1.2.1,())
   ) 18446744073709551616 (0,(⟨y0,[],List.replicate (wi (y0.workers+1):Int).toNat (dfR 71:WkP),0,0,⟨[],0⟩⟩:SyP),())).bind fun z2 =>
   some ((z2.2.1,()),())
   else none
   else none
   else none
   else none
   else none
   else none
   else none
   else none
   else none
  else none
 else none
noncomputable abbrev agy:Con SR1:=⟨25,[.val 13],[.sh (.own 72)],fun x =>aed x.1⟩
theorem aji:CO Tryz.prog agy:=aaC aaB Tryz.func25 [] trivial [] trivial (fun _ =>[]) [(3,.loop [.rg 13 sI_,.rg 3 (.own 72)] 18446744073709551616 0)] fun x =>by kernel_rfl
noncomputable def adl (y0:Cfg) (y1:List Ev):Option ((List VwV×Int×Int×Unit)×(Unit)) :=
 (aki y0).bind fun r1 =>
 if r1.1.1≠0 then
  some (([],0,r1.1.1,()),())
 else
 (aed y0).bind fun r2 =>
 (lpF (σ:=Int×SyP×Unit) (β:=(Int×SyP×Unit)⊕((List VwV×Int×Int×Unit)×(Unit))) (fun self5 x3 =>
  if x3.1<((y1.length:Nat):Int) then
   if 0≤x3.1∧x3.1<((y1.length:Nat):Int) then
   (aaj x3.2.1 (aa5 y1 x3.1)).bind fun r6 =>
   if (!r6.1.1)=true then
   (acz r6.2.1).bind fun r7 =>
   Option.map Sum.inr (
   some ((r7.1.1,x3.1,6,()),())
   )
   else
   self5 (wi (x3.1+1),r6.2.1,())
   else none
  else
  some (Sum.inl (x3.1,x3.2.1,()))
 ) 18446744073709551616 (0,r2.1.1,())).bind fun z4 =>match z4 with
 | .inr o8 =>some o8
 | .inl z4 =>
 (acz z4.2.1).bind fun r9 =>
 some ((r9.1.1,((y1.length:Nat):Int),0,()),())
noncomputable abbrev aga:Con SR1:=⟨14,[.val 13,.sh (.ro 2)],[.sh (.row 66),.sh sI_,.sh sI_],fun x =>adl x.1 x.2.1⟩
theorem ahW:CO Tryz.prog aga:=aaC aaB Tryz.func14 [al7,agy,afz,afy] ⟨apM,aji,aia,ah9,trivial⟩ [] trivial (fun _ =>[]) [(6,.loopR [.rg 20 sI_,.rg 8 (.own 72)] 18446744073709551616 0)] fun x =>by kernel_rfl
noncomputable def adN (y0:Cfg) (y1:List Ev):Option ((Int×Int×Unit)×(Unit)) :=
 (adl y0 y1).bind fun r1 =>
 some ((r1.1.2.1,r1.1.2.2.1,()),())
noncomputable abbrev ag1:Con SR1:=⟨10,[.val 13,.sh (.ro 2)],[.sh sI_,.sh sI_],fun x =>adN x.1 x.2.1⟩
theorem aiK:CO Tryz.prog ag1:=aaC aaB Tryz.func10 [aga] ⟨ahW,trivial⟩ [] trivial (fun _ =>[]) [] fun x =>by kernel_rfl
end
section
open Go Go.RowKit
set_option maxRecDepth 1000000
theorem aav {α β:Type} (a:α) (f:α→Option β):(some a).bind f=f a:=rfl
variable [Tb]
theorem anx {α:Type} {d:α} {xs:List α} {i:Int} (h:0≤i∧i<(xs.length:Int)):xs.set i.toNat (atL d xs i)=xs:=by
 have h1:i.toNat<xs.length:=by omega
 have h2:xs[i.toNat]?=some (atL d xs i):=ab2 h
 apply List.ext_getElem?
 intro j
 by_cases e:i.toNat=j
 ·subst e; rw [List.getElem?_set_self h1,h2]
 ·rw [List.getElem?_set_ne e]
section
variable {s:SyP} {k w t o l:Int}
def rgP (c:Cfg) (k w t o l:Int):Prop :=
 (if k=2∨k=16∨k=17∨k=18 then t=0 else 0≤t∧t<c.tasks) ∧
 (if k=1∨k=3∨k=7∨k=11∨k=12∨k=14∨k=19 then 0≤l∧l<c.levels else if k=2 then True else l=0) ∧
 (if k=3∨k=6∨k=8 then 0≤o∧o<c.tasks else if k=14∨k=18 then 0≤o∧o<c.workers else if k=1∨k=2∨k=17 then True else o=0) ∧
 (if k=1∨k=2 then w=c.workers else if k=18 then 0≤w∧w≤c.workers else 0≤w∧w<c.workers)
theorem asZ (h:k<1):aal s ⟨k,w,t,o,l⟩=some ((false,()),(s,())):=by
 unfold aal
 exact if_pos h
theorem as1 (h:19<k):aal s ⟨k,w,t,o,l⟩=some ((false,()),(s,())):=by
 unfold aal
 exact (if_neg (show ¬ k<1 by omega)).trans (if_pos (show ((19:Nat):Int)<k by omega))
set_option maxHeartbeats 4000000 in
theorem as0 (h1:1≤k) (h2:k≤19):∃ b,aal s ⟨k,w,t,o,l⟩=some ((b,()),(s,()))∧(b=true↔rgP s.c k w t o l):=by
 obtain ⟨n,hn⟩:∃ n:Nat,n<19∧k=(n:Int)+1:=⟨(k-1).toNat,by omega,by omega⟩
 obtain ⟨hn,rfl⟩:=hn
 unfold aal rgP
 rcases n with _ | _ | _ | _ | _ | _ | _ | _ | _ | _ | _ | _ | _ | _ | _ | _ | _ | _ | _ | n
 all_goals first | exact absurd hn (by omega) | skip
 all_goals clear h1 h2 hn
 all_goals simp (config:={ decide:=true }) only [if_true,if_false,aav]
 all_goals repeat' split
 all_goals (try simp only [aav,if_true,if_false,decide_eq_true_eq,Bool.false_eq_true])
 all_goals repeat' split
 all_goals (try simp only [aav,if_true,if_false,decide_eq_true_eq,Bool.false_eq_true])
 all_goals repeat' split
 all_goals (refine ⟨_,rfl,?_⟩; simp only [decide_eq_true_eq,Bool.false_eq_true,true_and,and_true,true_iff,false_iff] at *; omega)
end
end
end Go.Proofs.YtkmkhldmflebkaaGreat
