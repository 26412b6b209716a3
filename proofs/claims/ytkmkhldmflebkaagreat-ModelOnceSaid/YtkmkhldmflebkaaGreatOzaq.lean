/- slices.Insert at queue.Key,walked. slices.Insert at queue.Key in the evaluator's form. The model of the program in the evaluator's form. The model of the program in the evaluator's form. -/
import Derived.Test.YtkmkhldmflebkaaGreatRows
import Derived.Test.YtkmkhldmflebkaaGreatOzaa
import Derived.WalkKit
import Derived.Shelf.Spec.SlicesInsertGrow
import Derived.Test.YtkmkhldmflebkaaGreatOzai
set_option linter.all false
namespace Go.Proofs.YtkmkhldmflebkaaGreat
section
open Go Go.RowKit Go.Lib
set_option maxRecDepth 100000
set_option maxHeartbeats 4000000
theorem amc (w : World) : (Go.underlying 117).run Tryz.prog w = .ok (.slice 174) w := abD Tryz.underlying117
theorem arO : ∃ i,Tryz.prog.info? 174 = some i ∧ i.zero = some (.agg #[.int .i64 0,.int .i64 0,.int .i64 0]) ∧ i.size = 3 ∧ i.bytes = 24 := by
 obtain ⟨i,hi⟩ : ∃ i,Tryz.prog.info? 174 = some i ∧ i.zero = some (.agg #[.int .i64 0,.int .i64 0,.int .i64 0]) ∧ i.size = 3 ∧ i.bytes = 24 := ⟨_,rfl,by kernel_rfl,by kernel_rfl,by kernel_rfl⟩
 exact ⟨i,hi⟩
theorem apN (w : World) : (Go.sizeOf 174).run Tryz.prog w = .ok 3 w := by
 obtain ⟨i,h1,h2,h3,h4⟩ := arO
 unfold Go.sizeOf
 rw [aaa (abC h1),h3]
 rfl
theorem aww (base : Option Addr) (n c vb voff vc : Nat) (v' : Value) (w W1 : World) (hnc : n ≤ c) (hc63 : c ≤ 9223372036854775807) (hb : base = none → n = 0 ∧ c = 0)
  (h1 : ∀ ty,(Builtin.append_ #[117,117] ty #[.slice base n c,.slice (some ⟨vb,voff,none⟩) 1 vc]).run Tryz.prog w = .ok v' W1) :
  Calls Tryz.prog 98 #[.slice base n c,.int .i64 n,.slice (some ⟨vb,voff,none⟩) 1 vc] w fun e w' =>e = .returned v' ∧ w' = W1 := by
 have q1 := amc
 have q2 := apN
 have q3 := Tryz.underlying117
 go_enter Tryz.func98,Tryz.ntmps98
 cases base with
 | none =>
  obtain ⟨rfl,rfl⟩ := hb rfl
  go_wp2_with (at_builtin; refine Lib.wpList_append_run _ rfl _ _ _ _ rfl _ _ rfl rfl _ _ (h1 _) ?_)
  go_ret
  exact ⟨rfl,rfl⟩
 | some a =>
  obtain ⟨ab,ao,asp⟩ := a
  go_wp2_with (at_builtin; refine Lib.wpList_append_run _ rfl _ _ _ _ rfl _ _ rfl rfl _ _ (h1 _) ?_)
  all_goals (go_ret; exact ⟨rfl,rfl⟩)
theorem arV (b off n c i vb voff vc : Nat) (r1 r2 : Value) (w W1 W2 : World) (hi : i < n) (hroom : n + 1 ≤ c) (hc63 : c ≤ 9223372036854775807)
  (hov : ∀ cb,(callFunc 146 #[.slice (some ⟨vb,voff,none⟩) 1 vc,.slice (some ⟨b,off + (i + 1) * 3,none⟩) (n - i) cb]).run Tryz.prog w = .ok (.value (.bool false)) w)
  (h1 : ∀ ty dc sc,(Builtin.copy_ #[117,117] ty #[.slice (some ⟨b,off + (i + 1) * 3,none⟩) (n + 1 - (i + 1)) dc,.slice (some ⟨b,off + i * 3,none⟩) (n + 1 - i) sc]).run Tryz.prog w.drew = .ok r1 W1)
  (h2 : ∀ ty dc,(Builtin.copy_ #[117,117] ty #[.slice (some ⟨b,off + i * 3,none⟩) (n + 1 - i) dc,.slice (some ⟨vb,voff,none⟩) 1 vc]).run Tryz.prog W1 = .ok r2 W2) :
  Calls Tryz.prog 98 #[.slice (some ⟨b,off,none⟩) n c,.int .i64 i,.slice (some ⟨vb,voff,none⟩) 1 vc] w fun e w' =>e = .returned (.slice (some ⟨b,off,none⟩) (n + 1) c) ∧ w' = W2 := by
 have q1 := amc
 have q2 := apN
 have q3 := Tryz.underlying117
 have aaB : Tryz.prog.follows .mixedOrders = true := by kernel_rfl
 have hz2 : ¬ ((i : Int) = (n : Int)) := by omega
 have hw1 : IntKind.i64.wrap ((i : Int) + 1) = (i : Int) + 1 := by rw [IntKind.wrap_i64]; omega
 have hw2 : IntKind.i64.wrap ((n : Int) + 1) = (n : Int) + 1 := by rw [IntKind.wrap_i64]; omega
 have hb1 : (0 : Int) ≤ (i : Int) + 1 := by omega
 have hin : i ≤ n := by omega
 have htn : ((i : Int) + 1).toNat = i + 1 := by omega
 have htn2 : ((n : Int) + 1).toNat = n + 1 := by omega
 have hb2 : ¬ (c = i + 1) := by omega
 have hb3 : (i : Int) ≤ (n : Int) + 1 := by omega
 have hb4 : ¬ (c = i) := by omega
 go_enter Tryz.func98,Tryz.ntmps98
 go_wp2_with (simp only [hov])
 go_region_law_o (refine step_copy_runI rfl _ _ 117 117 rfl (.slice (some ⟨b,off + (i + 1) * 3,none⟩) (n + 1 - (i + 1)) (c - (i + 1))) (.slice (some ⟨b,off + i * 3,none⟩) (n + 1 - i) (c - i)) (by simp [Act.eval,Act.put]) (by simp [Act.eval,Act.put]) (h1 _ _ _) ?_)
 go_wp2_with (at_builtin; refine wpList_copy_runI _ rfl _ _ 117 117 rfl _ _ rfl rfl (h2 _ _) ?_)
 go_ret
 exact ⟨rfl,rfl⟩
theorem auf (b off n c i vb voff vc g G : Nat) (r1 r2 : Value) (w W0 W1 W2 : World) (hi : i < n) (hnc : n ≤ c) (hroom : c < n + 1) (hc63 : c ≤ 9223372036854775807) (hn63 : n + 1 ≤ 9223372036854775807) (hG : n + 1 ≤ G) (hG63 : G ≤ 9223372036854775807)
  (h0 : ∀ ty,(Builtin.append_ #[117,3] ty #[.slice (some ⟨b,off,none⟩) i c,.int .i64 ((n : Int) + 1 - (i : Int))]).run Tryz.prog w = .ok (.slice (some ⟨g,0,none⟩) (n + 1) G) W0)
  (h1 : ∀ ty,(Builtin.copy_ #[117,117] ty #[.slice (some ⟨g,i * 3,none⟩) (n + 1 - i) (G - i),.slice (some ⟨vb,voff,none⟩) 1 vc]).run Tryz.prog W0 = .ok r1 W1)
  (h2 : ∀ ty,(Builtin.copy_ #[117,117] ty #[.slice (some ⟨g,(i + 1) * 3,none⟩) (n + 1 - (i + 1)) (G - (i + 1)),.slice (some ⟨b,off + i * 3,none⟩) (n - i) (c - i)]).run Tryz.prog W1.drew = .ok r2 W2) :
  Calls Tryz.prog 98 #[.slice (some ⟨b,off,none⟩) n c,.int .i64 i,.slice (some ⟨vb,voff,none⟩) 1 vc] w fun e w' =>e = .returned (.slice (some ⟨g,0,none⟩) (n + 1) G) ∧ w' = W2 := by
 have q1 := amc
 have q2 := apN
 have q3 := Tryz.underlying117
 have aaB : Tryz.prog.follows .mixedOrders = true := by kernel_rfl
 have hz2 : ¬ ((i : Int) = (n : Int)) := by omega
 have hz3 : (c : Int) < (n : Int) + 1 := by omega
 have hw1 : IntKind.i64.wrap ((i : Int) + 1) = (i : Int) + 1 := by rw [IntKind.wrap_i64]; omega
 have hw2 : IntKind.i64.wrap ((n : Int) + 1) = (n : Int) + 1 := by rw [IntKind.wrap_i64]; omega
 have hw3 : IntKind.i64.wrap ((n : Int) + 1 - (i : Int)) = (n : Int) + 1 - (i : Int) := by rw [IntKind.wrap_i64]; omega
 have hb1 : (0 : Int) ≤ (i : Int) + 1 := by omega
 have hin : i ≤ n := by omega
 have htn : ((i : Int) + 1).toNat = i + 1 := by omega
 have hb3 : (i : Int) ≤ (n : Int) := by omega
 have hb4 : ¬ (c = i) := by omega
 have hG1 : ¬ (G = i) := by omega
 have hG2 : ¬ (G = i + 1) := by omega
 have hb5 : (i : Int) ≤ (n : Int) + 1 := by omega
 go_enter Tryz.func98,Tryz.ntmps98
 go_wp2_with (first
  | (at_builtin; refine Lib.wpList_append_run _ rfl _ _ _ _ rfl _ _ rfl rfl _ _ (h0 _) ?_)
  | (at_builtin; refine wpList_copy_runI _ rfl _ _ 117 117 rfl (.slice (some ⟨g,i * 3,none⟩) (n + 1 - i) (G - i)) (.slice (some ⟨vb,voff,none⟩) 1 vc) (by simp [Act.eval,Act.put]) (by simp [Act.eval,Act.put]) (h1 _) ?_))
 go_region_law_o (refine step_copy_runI rfl _ _ 117 117 rfl (.slice (some ⟨g,(i + 1) * 3,none⟩) (n + 1 - (i + 1)) (G - (i + 1))) (.slice (some ⟨b,off + i * 3,none⟩) (n - i) (c - i)) (by simp [Act.eval,Act.put]) (by simp [Act.eval,Act.put]) (h2 _) ?_)
 go_wp2
 go_ret
 exact ⟨rfl,rfl⟩
end
section
open Go Go.RowKit Go.Lib
set_option maxRecDepth 100000
theorem aik {w w1 : World} {ty : TypeId} {b o dLen dCap sLen sCap n : Nat} {a : Addr} {cs : List Value} (hn : Nat.min sLen dLen = n) (hl : ∀ j u,cs[j]? = some u → w.cell? (a.add j) = some u) (hc : cs.length = n * 3) (hst : (storeCells ⟨b,o,none⟩ cs 0).run Tryz.prog w = .ok () w1) :
  (Builtin.copy_ #[117,117] ty #[.slice (some ⟨b,o,none⟩) dLen dCap,.slice (some a) sLen sCap]).run Tryz.prog w = .ok (goInt n) w1 := by
 have h1 : (loadCells a (n * 3)).run Tryz.prog w = .ok cs.toArray w := by rw [← hc]; exact run_loadCells_list w a cs hl
 have h2 := amc
 have h3 := apN
 simp [Builtin.copy_,h2,h3,Builtin.lenOf,Builtin.firstCells,hn,h1,hst]
section
variable {B : Nat} {W w : World} {L : List aag} {A A2 : Option Addr} {n c c2 i : Nat} {X Y : List Value}
theorem ayk {b o vb vo : Nat} {Z : List Value} {cb : Nat} (s : Sat B w (pts b o Z :: pts vb vo Y :: L)) (hY : Y.length = 3) (hZ : (n + 1) * 3 ≤ Z.length) (hi : i < n) :
  (callFunc 146 #[.slice (some ⟨vb,vo,none⟩) 1 c2,.slice (some ⟨b,o + (i + 1) * 3,none⟩) (n - i) cb]).run Tryz.prog w = .ok (.value (.bool false)) w := by
 have hv := s.drop.cell (i := 0) (v := Y[0]'(by omega)) (List.getElem?_eq_getElem _)
 have hb := s.cell (i := 0) (v := Z[0]'(by omega)) (List.getElem?_eq_getElem _)
 have tv := s.drop.tame (i := 0) (v := Y[0]'(by omega)) (List.getElem?_eq_getElem _)
 have sh : ∀ {b o : Nat} {v : Value},w.cell? ⟨b,o,none⟩ = some v → ∃ t k,w.shape? b = some (t,k) ∧ k ≠ 0 := fun {b o v} h =>by
  unfold World.cell? at h
  unfold World.shape?
  cases hh : w.heap[b]? with
  | none =>rw [hh] at h; cases h
  | some x =>
   rw [hh] at h
   cases x <;> simp at h ⊢
   rename_i cs el fr
   have hlt := (Array.getElem?_eq_some_iff.1 h).1
   exact ⟨el,cs.size,⟨rfl,rfl⟩,by omega⟩
 obtain ⟨tA,kA,s1,_⟩ := sh hv.2.1
 obtain ⟨tB,kB,s2,s3⟩ := sh hb.2.1
 rw [run_callFunc_extern Tryz.func146 (by kernel_rfl) (by kernel_rfl) (by kernel_rfl) (e := Extern.SlicesOverlaps.overlaps #[117,117] #[4]) (by kernel_rfl)]
 by_cases hne : vb = b
 ·subst hne
  have hno : ¬ (vo < o + (i + 1) * 3 + (n - i) * 3 ∧ o + (i + 1) * 3 < vo + 3) := fun ⟨q1,q2⟩ =>by
   obtain ⟨h,H,k1,k2,a,e,hA,hL⟩ := s
   obtain ⟨k3,k4,a',e',hA',_⟩ := hL
   have key : ∀ x,vo ≤ x → x < vo + 3 → o ≤ x → x < o + (n + 1) * 3 → False := fun x p1 p2 p3 p4 =>by
    have c1 := hA (x - o) _ (List.getElem?_eq_getElem (by omega))
    have c2 := hA' (x - vo) _ (List.getElem?_eq_getElem (by omega))
    rw [show o + (x - o) = x by omega] at c1
    rw [show vo + (x - vo) = x by omega] at c2
    have c3 : k2 vb x = some (.cell (Y[x - vo]'(by omega))) := by rw [e']; unfold ab1; rw [c2]
    rcases a vb x with h1 | h1 | ⟨v,h1,_⟩
    ·rw [h1] at c1; cases c1
    ·rw [h1] at c3; cases c3
    ·rw [h1] at c1; cases c1
   by_cases hx : vo ≤ o + (i + 1) * 3
   ·exact key (o + (i + 1) * 3) hx q2 (by omega) (by omega)
   ·exact key vo (Nat.le_refl _) (by omega) (by omega) (by omega)
  have u1 := amc
  have u2 := apN
  have hni : ¬ (n - i = 0) := by omega
  have : (Extern.SlicesOverlaps.overlaps #[117,117] #[4] #[.slice (some ⟨vb,vo,none⟩) 1 c2,.slice (some ⟨vb,o + (i + 1) * 3,none⟩) (n - i) cb]).run Tryz.prog w = .ok (.bool false) w := by
   delta Extern.SlicesOverlaps.overlaps
   delta Extern.SlicesOverlaps.overlaps.match_4
   simp [u1,u2,hni]
   delta Extern.SlicesOverlaps.overlaps._sparseCasesOn_4
   simp only [Array.getLit]
   simp [u1,u2,hni]
   omega
  rw [this]; rfl
 ·rw [Lib.run_overlaps_apart w 117 4 174 Tryz.underlying117 3 apN ⟨vb,vo,none⟩ ⟨b,o + (i + 1) * 3,none⟩ 1 c2 (n - i) cb hne tA tB kA kB s1 s2 s3 hv.2.2 (tv tA kA s1)]
  rfl
theorem ayl (s : Sat B w (acC A n c 3 X :: acC A2 1 c2 3 Y :: L)) (hb : Below B W w) (hl : B ≤ w.heap.size) (hX : X.all abO = true) (hY : Y.all abO = true) (hi : i ≤ n) (hn : n ≤ 1000000) :
  Calls Tryz.prog 98 #[.slice A n c,.int .i64 i,.slice A2 1 c2] w fun e w' =>∃ A' c',e = .returned (.slice A' (n + 1) c') ∧ Cls B W (acC A' (n + 1) c' 3 (X.take (i * 3) ++ Y ++ X.drop (i * 3)) :: L) w' := by
 obtain ⟨hXl,hnc,hcm,hA⟩ := acH s (List.mem_cons_self ..)
 obtain ⟨h0,H0,k1,k2,ap,e,hr1,hL⟩ := s
 obtain ⟨k3,k4,ap2,e2,⟨hYl,hc1,hcm2,hA2⟩,hL2⟩ := hL
 rcases hA2 with ⟨_,rfl⟩ | ⟨vb,vo,sp2,rfl,hsp2,hp2⟩
 ·omega
 have hY3 : Y.length = 3 := by omega
 have s : Sat B w (acC A n c 3 X :: pts vb vo Y :: L) := ⟨h0,H0,k1,k2,ap,e,hr1,k3,k4,ap2,e2,(afA hp2).1,hL2⟩
 have sv : Sat B w (pts vb vo Y :: L) := s.drop
 obtain ⟨y0,hy0⟩ : ∃ y,Y[0]? = some y := ⟨Y[0]'(by omega),List.getElem?_eq_getElem _⟩
 have hYc : ∀ j u,Y[j]? = some u → w.cell? ((⟨vb,vo,none⟩ : Addr).add j) = some u := fun j u hj =>by rw [abq]; exact (sv.cell hj).2.1
 by_cases hin : i = n
 ·subst hin
  obtain ⟨inf,f1,f2,f3,f4⟩ := arO
  obtain ⟨A',c',w',h1,h2⟩ := ahI (P := Tryz.prog) (ty := 117) (c := c2) (k := 1) (sz := 3) (z := .agg #[.int .i64 0,.int .i64 0,.int .i64 0]) (by_ := 24) Tryz.underlying117 ⟨inf,f1,f2,f3,f4⟩ rfl (by decide) s hb hl (by omega) hY (by decide) (by unfold maxLen; omega) (by omega)
  refine (aww A i c vb vo c2 _ w w' hnc (by unfold maxLen at hcm; omega) (fun e =>?_) (fun ty =>h1)).mono fun e w2 ⟨he,hw⟩ =>?_
  ·rcases hA with ⟨_,h⟩ | ⟨b,o,h,_⟩
   ·omega
   ·rw [h] at e; cases e
  ·subst hw
   refine ⟨A',c',he,h2.1,h2.2.1,?_⟩
   have e1 : X.take (i * 3) ++ Y ++ X.drop (i * 3) = X ++ Y := by
    rw [List.take_of_length_le (by omega),List.drop_eq_nil_of_le (by omega),List.append_nil]
   rw [e1]
   obtain ⟨q0,Q,q1,q2,qa,qe,g1,g2⟩ := h2.2.2
   exact Sat.perm (L := [acC A' (i + 1) c' 3 (X ++ Y),pts vb vo Y] ++ L) ⟨q0,Q,q1,q2,qa,qe,g1,g2⟩ (List.Perm.refl _) |>.imp fun h =>abf fun h hh =>by
    obtain ⟨_,_,ap,e,_,hM⟩ := hh
    have : abk ([] ++ L) h := aao.2 ⟨_,_,ap,e,trivial,hM⟩
    exact this
 ·have hlt : i < n := by omega
  rcases hA with ⟨_,h⟩ | ⟨b,o,rfl,hcells⟩
  ·omega
  obtain ⟨q0,Q,q1,q2,qa,qe,⟨_,_,_,hA⟩,qL⟩ := s
  rcases hA with ⟨h,_⟩ | ⟨b',o',sp,he,hsp,hp⟩
  ·cases h
  obtain ⟨rfl,rfl⟩ : b = b' ∧ o = o' := by
   have := Option.some.inj he; exact ⟨congrArg Addr.block this,congrArg Addr.off this⟩
  have s : Sat B w (pts b o (X ++ sp) :: pts vb vo Y :: L) := ⟨q0,Q,q1,q2,qa,qe,hp,qL⟩
  have hXd : (X.drop (i * 3)).length = (n - i) * 3 := by rw [List.length_drop,hXl]; omega
  have hXda : (X.drop (i * 3)).all abO = true := List.all_eq_true.2 fun u hu =>List.all_eq_true.1 hX u (List.mem_of_mem_drop hu)
  by_cases hroom : n + 1 ≤ c
  ·have hspl : 3 ≤ sp.length := by
    rw [hsp]
    have : 1 ≤ c - n := by omega
    omega
   have sd := s.below (w' := w.drew) ((Below.refl _ _).drew)
   obtain ⟨W1,g1,g2⟩ := abI (P := Tryz.prog) (W := W) (b := b) (o := o) (o' := o + (i + 1) * 3) (X.drop (i * 3)) 0 ((i + 1) * 3) (X ++ sp) w.drew _ (by omega) hXda (by rw [hXd,List.length_append,hXl]; omega) sd hb.drew (by simpa using hl)
   obtain ⟨W2,g3,g4⟩ := abI (P := Tryz.prog) (W := W) (b := b) (o := o) (o' := o + i * 3) Y 0 (i * 3) _ W1 _ (by omega) hY (by simp only [List.length_append,List.length_take,List.length_drop,hXl,hY3]; omega) g2.2.2 g2.1 g2.2.1
   have ov : ∀ cb,(callFunc 146 #[.slice (some ⟨vb,vo,none⟩) 1 c2,.slice (some ⟨b,o + (i + 1) * 3,none⟩) (n - i) cb]).run Tryz.prog w = .ok (.value (.bool false)) w := fun cb =>ayk s hY3 (by rw [List.length_append,hXl]; omega) hlt
   refine (arV b o n c i vb vo c2 (goInt ((n - i : Nat) : Int)) (goInt 1) w W1 W2 hlt hroom (by unfold maxLen at hcm; omega) ov (fun ty dc sc =>?_) (fun ty dc =>?_)).mono fun e w2 ⟨he,hw⟩ =>?_
   ·refine aik (n := n - i) (sLen := n + 1 - i) (dLen := n + 1 - (i + 1)) (by simp only [Nat.min_def]; split <;> omega) (fun j u hj =>?_) hXd g1
    rw [abq,Nat.add_assoc]
    refine (sd.cell ?_).2.1
    rw [List.getElem?_drop] at hj
    rw [List.getElem?_append_left (List.getElem?_eq_some_iff.1 hj).1]
    exact hj
   ·refine aik (n := 1) (sLen := 1) (dLen := n + 1 - i) (by simp only [Nat.min_def]; split <;> omega) (fun j u hj =>?_) (by omega) g3
    rw [abq]
    exact (g2.2.2.drop.cell hj).2.1
   ·subst hw
    refine ⟨some ⟨b,o,none⟩,c,he,g4.1,g4.2.1,?_⟩
    have s3 := g4.2.2
    refine s3.imp fun h =>fun hh =>?_
    obtain ⟨a1,a2,a3,a4,a5,a6⟩ := hh
    obtain ⟨_,_,b1,b2,_,b3⟩ := a6
    have b4 : abk L a2 := by
     have : abk ([] ++ L) a2 := aao.2 ⟨_,_,b1,b2,trivial,b3⟩
     exact this
    refine ⟨a1,a2,a3,a4,⟨?_,hroom,hcm,.inr ⟨b,o,sp.drop 3,rfl,?_,?_⟩⟩,b4⟩
    ·simp only [List.length_append,List.length_take,List.length_drop,hXl,hY3]; omega
    ·rw [List.length_drop,hsp]; omega
    ·have e1 : ((X ++ sp).take ((i + 1) * 3) ++ X.drop (i * 3) ++ (X ++ sp).drop ((i + 1) * 3 + (X.drop (i * 3)).length)).take (i * 3) = X.take (i * 3) := by
      rw [List.append_assoc,List.take_append_of_le_length (by rw [List.length_take,List.length_append,hXl]; omega),List.take_take,Nat.min_eq_left (by omega),List.take_append_of_le_length (by omega)]
     have e2 : ((X ++ sp).take ((i + 1) * 3) ++ X.drop (i * 3) ++ (X ++ sp).drop ((i + 1) * 3 + (X.drop (i * 3)).length)).drop (i * 3 + Y.length) = X.drop (i * 3) ++ sp.drop 3 := by
      have l1 : ((X ++ sp).take ((i + 1) * 3)).length = i * 3 + Y.length := by rw [List.length_take,List.length_append,hXl]; omega
      rw [List.append_assoc,← l1,List.drop_left,hXd]
      congr 1
      rw [List.drop_append,List.drop_eq_nil_of_le (by omega),List.nil_append]
      congr 1
      omega
     rw [e1,e2] at a5
     simpa [List.append_assoc] using a5
  ·obtain ⟨inf,f1,f2,f3,f4⟩ := arO
   have sd := s.below (w' := w.drew) ((Below.refl _ _).drew)
   have hXt : (X.take (i * 3)).length = i * 3 := by rw [List.length_take,hXl]; omega
   have hold : (Builtin.firstCells inf.size i (.slice (some ⟨b,o,none⟩) i c)).run Tryz.prog w.drew = .ok (X.take (i * 3)).toArray w.drew := by
    rw [f3]
    refine run_firstCells_some w.drew 3 i ⟨b,o,none⟩ i c (X.take (i * 3)) hXt fun j v hj =>?_
    rw [abq]
    refine (sd.cell ?_).2.1
    rw [List.getElem?_take] at hj
    split at hj
    ·rw [List.getElem?_append_left (List.getElem?_eq_some_iff.1 hj).1]; exact hj
    ·cases hj
   have hik : i + (n + 1 - i) = n + 1 := by omega
   have hG := grownCap_ge w (n + 1) c 174
   have hGm := grownCap_le_maxLen w (n + 1) c 174 (by unfold maxLen; omega)
   obtain ⟨G,hGe⟩ : ∃ G,grownCap w (n + 1) c 174 = G := ⟨_,rfl⟩
   have hrz : ∀ ty,(Builtin.append_ #[117,3] ty #[.slice (some ⟨b,o,none⟩) i c,.int .i64 ((n : Int) + 1 - (i : Int))]).run Tryz.prog w = .ok (.slice (some ⟨w.heap.size,0,none⟩) (n + 1) G) (w.drew.alloc (.cells ((X.take (i * 3)).toArray ++ Builtin.zeroCells #[.int .i64 0,.int .i64 0,.int .i64 0] (n + 1 - i) ++ Builtin.zeroCells #[.int .i64 0,.int .i64 0,.int .i64 0] (G - (n + 1))) 174)) := fun ty =>by
    have h := Lib.run_append_grow_zeros w 117 3 ty 174 inf _ .i64 .i64 Tryz.underlying117 Tryz.underlying3 f1 f2 (some ⟨b,o,none⟩) i c (X.take (i * 3)) hold (n + 1 - i) (by omega) (by omega) (by omega) (by omega) (by rw [f4]; omega) (by rw [f4,hik]; exact growslice_fits (by omega) (by omega))
    rw [hik,hGe] at h
    rw [show ((n : Int) + 1 - (i : Int)) = ((n + 1 - i : Nat) : Int) by omega]
    exact h
   rw [hGe] at hG hGm
   generalize hR : (X.take (i * 3)).toArray ++ Builtin.zeroCells #[.int .i64 0,.int .i64 0,.int .i64 0] (n + 1 - i) ++ Builtin.zeroCells #[.int .i64 0,.int .i64 0,.int .i64 0] (G - (n + 1)) = ROW at hrz
   have hRs : ROW.toList.length = G * 3 := by
    rw [← hR]
    simp [size_zeroCells,hXl]
    omega
   have hRt : ROW.toList.take (i * 3) = X.take (i * 3) := by
    rw [← hR]
    simp only [Array.toList_append,List.append_assoc]
    rw [List.take_append_of_le_length (by rw [hXt]; exact Nat.le_refl _),List.take_of_length_le (by rw [hXt]; exact Nat.le_refl _)]
   have s0 := sd.fresh (cs := ROW) (T := 174) (by simpa using hl)
   have b0 := acg hb.drew (by simpa using hl) (.cells ROW 174)
   have l0 : B ≤ (w.drew.alloc (.cells ROW 174)).heap.size := by simpa using Nat.le_succ_of_le hl
   obtain ⟨W1,g1,g2⟩ := abI (P := Tryz.prog) (W := W) (b := w.heap.size) (o := 0) (o' := i * 3) Y 0 (i * 3) ROW.toList _ _ (by omega) hY (by rw [hRs,hY3]; omega) s0 b0 l0
   have sd1 := g2.2.2.below (w' := W1.drew) ((Below.refl _ _).drew)
   obtain ⟨W2,g3,g4⟩ := abI (P := Tryz.prog) (W := W) (b := w.heap.size) (o := 0) (o' := (i + 1) * 3) (X.drop (i * 3)) 0 ((i + 1) * 3) _ W1.drew _ (by omega) hXda (by simp only [List.length_append,List.length_take,List.length_drop,hRs,hY3,hXl]; omega) sd1 g2.1.drew (by simpa using g2.2.1)
   refine (auf b o n c i vb vo c2 w.heap.size G (goInt 1) (goInt ((n - i : Nat) : Int)) w _ W1 W2 hlt hnc (by omega) (by unfold maxLen at hcm; omega) (by omega) hG (by unfold maxLen at hGm; omega) hrz (fun ty =>?_) (fun ty =>?_)).mono fun e w2 ⟨he,hw⟩ =>?_
   ·refine aik (n := 1) (sLen := 1) (dLen := n + 1 - i) (by simp only [Nat.min_def]; split <;> omega) (fun j u hj =>?_) (by omega) g1
    rw [abq]
    exact (s0.drop.drop.cell hj).2.1
   ·refine aik (n := n - i) (sLen := n - i) (dLen := n + 1 - (i + 1)) (by simp only [Nat.min_def]; split <;> omega) (fun j u hj =>?_) hXd g3
    rw [abq,Nat.add_assoc]
    refine (sd1.drop.cell ?_).2.1
    rw [List.getElem?_drop] at hj
    rw [List.getElem?_append_left (List.getElem?_eq_some_iff.1 hj).1]
    exact hj
   ·subst hw
    refine ⟨some ⟨w.heap.size,0,none⟩,G,he,g4.1,g4.2.1,?_⟩
    have s3 := g4.2.2
    refine s3.imp fun h =>fun hh =>?_
    obtain ⟨a1,a2,a3,a4,a5,a6⟩ := hh
    obtain ⟨_,_,b1,b2,_,b3⟩ := a6
    obtain ⟨_,_,b1',b2',_,b3'⟩ := b3
    have b4 : abk L a2 := by
     have h1 : abk ([] ++ L) _ := aao.2 ⟨_,_,b1',b2',trivial,b3'⟩
     have : abk ([] ++ L) a2 := aao.2 ⟨_,_,b1,b2,trivial,h1⟩
     exact this
    refine ⟨a1,a2,a3,a4,⟨?_,hG,hGm,.inr ⟨w.heap.size,0,(ROW.toList.take (i * 3) ++ Y ++ ROW.toList.drop (i * 3 + Y.length)).drop ((n + 1) * 3),rfl,?_,?_⟩⟩,b4⟩
    ·simp only [List.length_append,List.length_take,List.length_drop,hXl,hY3]; omega
    ·simp only [List.length_append,List.length_take,List.length_drop,hRs,hY3]; omega
    ·have e1 : (ROW.toList.take (i * 3) ++ Y ++ ROW.toList.drop (i * 3 + Y.length)).take ((i + 1) * 3) = X.take (i * 3) ++ Y := by
      have l1 : (ROW.toList.take (i * 3) ++ Y).length = (i + 1) * 3 := by rw [List.length_append,List.length_take,hRs,hY3]; omega
      rw [← l1,List.take_left,hRt]
     have e2 : (i + 1) * 3 + (X.drop (i * 3)).length = (n + 1) * 3 := by rw [hXd]; omega
     rw [e1,e2] at a5
     exact a5
end
theorem an9 {K : KT} {B : Nat} {w : World} {c : Nat} {xs : List (K.T c)} {v : Value} {L : List aag} (hc : K.pl c = true) (s : Sat B w (pcS K (.row c xs) v :: L)) : ∃ A cap,v = .slice A xs.length cap ∧ Sat B w (acC A xs.length cap (K.sz c) (xs.flatMap (ac0 K c)) :: L) := by
 obtain ⟨h,Hh,k1,k2,a,e,h1,hL⟩ := s
 rw [aaF] at h1
 obtain ⟨A,cap,rfl,hr⟩ := h1
 rw [abT] at hr
 obtain ⟨vss,q1,q2,a',e',g1,g2⟩ := hr
 have g3 : abk (abx K (pcS K) c xs vss ++ []) q2 := by simpa using g2
 obtain ⟨rfl,_⟩ := aho hc g3
 rw [← List.flatMap_def] at g1
 refine ⟨A,cap,rfl,h,Hh,k1,k2,a,e,?_,hL⟩
 obtain ⟨r1,r2,r3,r4⟩ := g1
 refine ⟨r1,r2,r3,r4.imp id ?_⟩
 rintro ⟨b,o,spare,hA,hs,hp⟩
 refine ⟨b,o,spare,hA,hs,fun i v hi =>?_⟩
 rw [e']; unfold ab1; rw [hp i v hi]
def afi (xs : List KyV) (i : Int) (ys : List KyV) : Option ((List KyV × Unit) × Unit) := if ((0 ≤ i ∧ i ≤ (xs.length : Int)) ∧ xs.length ≤ 1000000) ∧ ys.length = 1 then some ((xs.take i.toNat ++ ys ++ xs.drop i.toNat,()),()) else none
noncomputable abbrev agh : Con SR1 := ⟨98,[.sh (.row 68),.sh sI_,.sh (.row 68)],[.sh (.row 68)],fun x =>afi x.1 x.2.1 x.2.2.1⟩
theorem ar3 {α : Type} {enc : α → List Value} (h : ∀ x,(enc x).length = 3) : ∀ (xs : List α) (i : Nat),(xs.flatMap enc).take (i * 3) = (xs.take i).flatMap enc
 | xs,0 =>by simp
 | [],i + 1 =>by simp
 | x :: xs,i + 1 =>by
  rw [List.take_succ_cons,List.flatMap_cons,List.flatMap_cons,← ar3 h xs i,List.take_append,h x,List.take_of_length_le (by rw [h x]; omega),show (i + 1) * 3 - 3 = i * 3 by omega]
theorem ar4 {α : Type} {enc : α → List Value} (h : ∀ x,(enc x).length = 3) : ∀ (xs : List α) (i : Nat),(xs.flatMap enc).drop (i * 3) = (xs.drop i).flatMap enc
 | xs,0 =>by simp
 | [],i + 1 =>by simp
 | x :: xs,i + 1 =>by
  rw [List.drop_succ_cons,List.flatMap_cons,← ar4 h xs i,List.drop_append,h x,List.drop_eq_nil_of_le (by rw [h x]; omega),List.nil_append,show (i + 1) * 3 - 3 = i * 3 by omega]
theorem amm {α : Type} {enc : α → List Value} (h : ∀ x,(enc x).all abO = true) (xs : List α) : (xs.flatMap enc).all abO = true := List.all_eq_true.2 fun u hu =>by
 obtain ⟨x,_,hx⟩ := List.mem_flatMap.1 hu
 exact List.all_eq_true.1 (h x) u hx
abbrev kyE : SR1.kt.T 68 → List Value := ac0 SR1.kt 68
theorem ky3 : ∀ x,(kyE x).length = 3 := fun _ =>rfl
theorem kyS : ∀ x,(kyE x).all abO = true := fun _ =>rfl
theorem aud {B : Nat} {W w : World} {F : aag} {xs ys : List (SR1.kt.T 68)} {j : Nat} {v0 v1 v2 : Value} (hb : Below B W w) (hB : B ≤ w.heap.size) (hj : j ≤ xs.length) (hxl : xs.length ≤ 1000000) (hyl : ys.length = 1)
  (hs : Sat B w (pcS SR1.kt (.row 68 xs) v0 :: pcS SR1.kt (.i .i64 (j : Int)) v1 :: pcS SR1.kt (.row 68 ys) v2 :: [F])) :
  Calls Tryz.prog 98 #[v0,v1,v2] w fun e w' =>∃ u,e = .returned u ∧ Cls B W (pcS SR1.kt (.row 68 (xs.take j ++ ys ++ xs.drop j)) u :: [F]) w' := by
 obtain ⟨A,c,rfl,s1⟩ := an9 rfl hs
 have hv1 : v1 = .int .i64 j := by
  obtain ⟨_,_,k1,k2,_,_,h1,_⟩ := s1.drop
  exact aaF.1 h1
 subst hv1
 have s2 : Sat B w (pcS SR1.kt (.row 68 ys) v2 :: acC A xs.length c 3 (List.flatMap kyE xs) :: [F]) := by
  obtain ⟨h,H,k1,k2,a,e,h1,hL⟩ := s1
  have hL' : abk ([pcS SR1.kt (.i .i64 (j : Int)) (.int .i64 j)] ++ [pcS SR1.kt (.row 68 ys) v2,F]) k2 := hL
  exact (show Sat B w (acC A xs.length c 3 (List.flatMap kyE xs) :: pcS SR1.kt (.row 68 ys) v2 :: [F]) from ⟨h,H,k1,k2,a,e,h1,ada hL'⟩).perm (List.Perm.swap ..)
 obtain ⟨A2,c2,rfl,s3⟩ := an9 rfl s2
 have s4 := s3.perm (List.Perm.swap ..)
 rw [hyl] at s4 ⊢
 have hk := ayl (W := W) (L := [F]) (i := j) s4 hb hB (amm kyS xs) (amm kyS ys) hj hxl
 refine hk.mono fun e w' ⟨A',c',he,h1,h2,h3⟩ =>?_
 have hlen : (xs.take j ++ ys ++ xs.drop j).length = xs.length + 1 := by simp only [List.length_append,List.length_take,List.length_drop,hyl]; omega
 refine ⟨_,he,h1,h2,?_⟩
 have e1 : (List.flatMap kyE xs).take (j * 3) ++ List.flatMap kyE ys ++ (List.flatMap kyE xs).drop (j * 3) = List.flatMap kyE (xs.take j ++ ys ++ xs.drop j) := by
  rw [ar3 ky3,ar4 ky3,List.flatMap_append,List.flatMap_append]
 rw [e1,← hlen] at h3
 have := aki (S := SR1) (c := 68) (fun _ =>rfl) h3
 rw [hlen] at this
 exact this
variable [Tb]
theorem amg : CO Tryz.prog agh := fun x out hx B W hg vs F w hw =>by
 obtain ⟨hb,hB,hs⟩ := hw
 obtain ⟨xs,i,ys,u⟩ := x
 have hx : afi xs i ys = some out := hx
 unfold afi at hx
 split at hx
 case isFalse =>cases hx
 rename_i hn
 obtain ⟨⟨⟨hi0,hi1⟩,hxl⟩,hyl⟩ := hn
 cases hx
 show aek Tryz.prog agh.f _ w _
 rw [adh rfl]
 rcases vs with _ | ⟨v0,_ | ⟨v1,_ | ⟨v2,_ | ⟨v3,vs⟩⟩⟩⟩
 ·exact aaR hs
 ·exact aaR (show Sat B w (_ :: (fun _ =>False) :: _) from hs).drop
 ·exact aaR (show Sat B w (_ :: _ :: (fun _ =>False) :: _) from hs).drop.drop
 ·obtain ⟨j,rfl⟩ : ∃ j : Nat,i = (j : Int) := ⟨i.toNat,(Int.toNat_of_nonneg hi0).symm⟩
  exact (aud hb hB (Int.ofNat_le.1 hi1) hxl hyl hs).mono fun e w' ⟨u,he,hc⟩ =>⟨[u],he,hc⟩
 ·exact aaR (show Sat B w (_ :: _ :: _ :: (fun _ =>False) :: _) from hs).drop.drop.drop
end
section
open Go Go.RowKit
set_option maxRecDepth 100000
variable [Tb]
noncomputable def agY (y0 : Int) : Option ((Bool × Unit) × (Unit)) :=
 some ((decide (y0 ≠ y0),()),())
noncomputable abbrev ajZ : Con SR1 := ⟨179,[.sh sI_],[.sh .b],fun x =>agY x.1⟩
theorem anF : CO Tryz.prog ajZ := aaC aaB Tryz.func179 [] trivial [] trivial (fun _ =>[]) [] fun x =>by kernel_rfl
noncomputable def adw (y0 : Int) (y1 : Int) : Option ((Int × Unit) × (Unit)) :=
 (agY y0).bind fun r1 =>
 (agY y1).bind fun r2 =>
 if r1.1.1 = true then
  if r2.1.1 = true then
   some ((0,()),())
  else
  some (((-1),()),())
 else
 if r2.1.1 = true then
  some ((1,()),())
 else
 if y0 < y1 then
  some (((-1),()),())
 else
 if y1 < y0 then
  some ((1,()),())
 else
 some ((0,()),())
noncomputable abbrev ahZ : Con SR1 := ⟨145,[.sh sI_,.sh sI_],[.sh sI_],fun x =>adw x.1 x.2.1⟩
theorem ak8 : CO Tryz.prog ahZ := aaC aaB Tryz.func145 [ajZ] ⟨anF,trivial⟩ [] trivial (fun _ =>[]) [] fun x =>by kernel_rfl
noncomputable def auG (y0 : List Int) : Option ((Int × Unit) × (Unit)) :=
 (lpF (σ := Int × Unit) (β := (Int × Unit) ⊕ ((Int × Unit) × (Unit))) (fun self3 x1 =>
  if x1.1 < ((y0.length : Nat) : Int) then
   if 0 ≤ x1.1 ∧ x1.1 < ((y0.length : Nat) : Int) then
   if (aae y0 x1.1) ≠ 0 then
   Option.map Sum.inr (
   some ((aae y0 x1.1,()),())
   )
   else
   self3 (wi (x1.1 + 1),())
   else none
  else
  some (Sum.inl (x1.1,()))
 ) 18446744073709551616 (0,())).bind fun z2 =>match z2 with
 | .inr o4 =>some o4
 | .inl z2 =>
 some ((0,()),())
noncomputable abbrev asu : Con SR1 := ⟨144,[.sh (.ro 1)],[.sh sI_],fun x =>auG x.1⟩
theorem auE : CO Tryz.prog asu := aaC aaB Tryz.func144 [] trivial [] trivial (fun _ =>[]) [(3,.loopR [.rg 8 sI_] 18446744073709551616 0)] fun x =>by kernel_rfl
noncomputable def acs (y0 : KyV) (y1 : KyV) : Option ((Int × Unit) × (Unit)) :=
 (adw y0.deadline y1.deadline).bind fun r1 =>
 if y1.task = y1.task then
  if y0.task = y0.task then
   if y1.arrival = y1.arrival then
   if y0.arrival = y0.arrival then
   (adw y0.arrival y1.arrival).bind fun r2 =>
   if y1.task = y1.task then
   if y0.task = y0.task then
   (adw y0.task y1.task).bind fun r3 =>
   (auG ([r1.1.1,r2.1.1,r3.1.1])).bind fun r4 =>
   some ((r4.1.1,()),())
   else none
   else none
   else none
   else none
  else none
 else none
noncomputable abbrev afY : Con SR1 := ⟨97,[.val 68,.val 68],[.sh sI_],fun x =>acs x.1 x.2.1⟩
theorem aiE : CO Tryz.prog afY := aaC aaB Tryz.func97 [ahZ,asu] ⟨ak8,auE,trivial⟩ [] trivial (fun _ =>[]) [] fun x =>by kernel_rfl
noncomputable def aaE (y0 : CtP) (y1 : Cfg) (y2 : Ev) : Option ((Bool × Unit) × (CtP × Unit)) :=
 if y2.kind = 1 then
  ((
   if y2.other < 0 then
   some (true,y0,())
   else
   if ((y1.subs.length : Nat) : Int) ≤ y2.other then
   some (true,y0,())
   else
   some (decide (y1.heap ≤ ((y0.keys.length : Nat) : Int)),y0,())
  ) : Option (Bool × CtP × Unit)).bind fun z1 =>
  if z1.1 = true then
   some ((false,()),(z1.2.1,()))
  else
  if 0 ≤ y2.other ∧ y2.other < ((y1.subs.length : Nat) : Int) then
   if y2.task = y2.task then
   if z1.2.1.count = z1.2.1.count then
   if ((ac1 y1.subs y2.other).deadline) = ((ac1 y1.subs y2.other).deadline) then
   if y2.other = y2.other then
   ((
   (lpF (σ := Int × Int × Unit) (β := Int × Int × Unit) (fun self4 x2 =>
   if x2.1 < x2.2.1 then
   if 0 ≤ wi (Int.fdiv (wu (wi (x2.1 + x2.2.1))) (2 ^ min (1 : Int).toNat IntKind.u64.bits)) ∧ wi (Int.fdiv (wu (wi (x2.1 + x2.2.1))) (2 ^ min (1 : Int).toNat IntKind.u64.bits)) < ((z1.2.1.keys.length : Nat) : Int) then
   (acs (ads z1.2.1.keys (wi (Int.fdiv (wu (wi (x2.1 + x2.2.1))) (2 ^ min (1 : Int).toNat IntKind.u64.bits)))) (⟨(ac1 y1.subs y2.other).deadline,z1.2.1.count,y2.task⟩ : KyV)).bind fun r5 =>
   if r5.1.1 < 0 then
   self4 (wi ((wi (Int.fdiv (wu (wi (x2.1 + x2.2.1))) (2 ^ min (1 : Int).toNat IntKind.u64.bits))) + 1),x2.2.1,())
   else
   self4 (x2.1,wi (Int.fdiv (wu (wi (x2.1 + x2.2.1))) (2 ^ min (1 : Int).toNat IntKind.u64.bits)),())
   else none
   else
   some (x2.1,x2.2.1,())
   ) 18446744073709551616 (0,((z1.2.1.keys.length : Nat) : Int),())).bind fun z3 =>
   if z3.1 < ((z1.2.1.keys.length : Nat) : Int) then
   if 0 ≤ z3.1 ∧ z3.1 < ((z1.2.1.keys.length : Nat) : Int) then
   (acs (ads z1.2.1.keys z3.1) (⟨(ac1 y1.subs y2.other).deadline,z1.2.1.count,y2.task⟩ : KyV)).bind fun r6 =>
   some (z3.1,())
   else none
   else
   some (z3.1,())
   ) : Option (Int × Unit)).bind fun z7 =>
   (afi z1.2.1.keys z7.1 ([(⟨(ac1 y1.subs y2.other).deadline,z1.2.1.count,y2.task⟩ : KyV)])).bind fun r8 =>
   some ((true,()),((⟨r8.1.1,wi (z1.2.1.count + 1)⟩ : CtP),()))
   else none
   else none
   else none
   else none
  else none
 else
 if y2.kind = 13 then
  ((
   if ((y0.keys.length : Nat) : Int) = 0 then
   some (true,y0,())
   else
   if 0 ≤ (0 : Int) ∧ (0 : Int) < ((y0.keys.length : Nat) : Int) then
   some (decide (((ads y0.keys 0).task) ≠ y2.task),y0,())
   else none
  ) : Option (Bool × CtP × Unit)).bind fun z9 =>
  if z9.1 = true then
   some ((false,()),(z9.2.1,()))
  else
  if 0 ≤ (1 : Int) ∧ (1 : Int) ≤ ((z9.2.1.keys.length : Nat) : Int) then
   some ((true,()),((⟨z9.2.1.keys.drop ((1 : Int) : Int).toNat,z9.2.1.count⟩ : CtP),()))
  else none
 else
 if y2.kind = 2 then
  if y2.level ≠ 1 then
   some ((true,()),(y0,()))
  else
  some ((decide (((y0.keys.length : Nat) : Int) = y1.heap),()),(y0,()))
 else
 some ((true,()),(y0,()))
noncomputable abbrev adF : Con SR1 := ⟨72,[.ref 69,.val 13,.val 2],[.sh .b],fun x =>aaE x.1 x.2.1 x.2.2.1⟩
noncomputable def afJ : List (Nat × Func) := [(96,Tryz.f96)]
theorem afK : CO Tryz.prog adF := aaC aaB Tryz.func72 [afY,agh] ⟨aiE,amg,trivial⟩ afJ ⟨Tryz.func96,trivial⟩ (fun f =>(get [(96,[(3,.loop [.rg 9 sI_,.rg 10 sI_] 18446744073709551616 0)])] f).getD []) [(4,.cut [.rg 34 .b,.ob 0 69] [10,11,17,18]),(7,.cut [.rg 8 sI_] [0,10,11,17,18,36,37,44]),(11,.cut [.rg 95 .b,.ob 0 69] [10,11,17,18])] fun x =>by kernel_rfl
abbrev usL : List UseV := ([(⟨true,false,false,true,true,false⟩ : UseV),(⟨false,false,false,true,false,true⟩ : UseV),(⟨true,true,false,false,true,false⟩ : UseV),(⟨true,false,false,false,false,false⟩ : UseV),(⟨true,false,false,false,false,false⟩ : UseV),(⟨true,true,false,false,false,false⟩ : UseV),(⟨true,false,false,false,true,false⟩ : UseV),(⟨true,true,false,false,false,false⟩ : UseV),(⟨true,false,false,false,false,false⟩ : UseV),(⟨true,false,false,false,false,false⟩ : UseV),(⟨true,false,false,false,true,false⟩ : UseV),(⟨true,false,false,false,true,false⟩ : UseV),(⟨true,false,false,false,false,false⟩ : UseV),(⟨true,false,true,false,true,false⟩ : UseV),(⟨true,false,false,false,false,false⟩ : UseV),(⟨false,false,false,false,false,false⟩ : UseV),(⟨false,false,false,true,false,false⟩ : UseV),(⟨false,false,true,false,false,false⟩ : UseV),(⟨true,false,false,false,true,false⟩ : UseV)] : List UseV)
noncomputable def aaj (y0 : SyP) (y1 : Ev) : Option ((Bool × Unit) × (SyP × Unit)) :=
 if y1.kind < 1 then
  some ((false,()),(y0,()))
 else
 if ((usL.length : Nat) : Int) < y1.kind then
  some ((false,()),(y0,()))
 else
 if 0 ≤ wi (y1.kind - 1) ∧ wi (y1.kind - 1) < ((usL.length : Nat) : Int) then
  ((
   if (!((amD usL (wi (y1.kind - 1))).task)) = true then
   if ¬ (y1.task = 0) then
   some (true,y0,())
   else
   if (!((amD usL (wi (y1.kind - 1))).raw)) = true then
   if (!((amD usL (wi (y1.kind - 1))).level)) = true then
   some (decide (¬ (y1.level = 0)),y0,())
   else
   if 0 ≤ y1.level then
   some (decide (¬ (y1.level < y0.c.levels)),y0,())
   else
   some (true,y0,())
   else
   some (false,y0,())
   else
   if 0 ≤ y1.task then
   if ¬ (y1.task < y0.c.tasks) then
   some (true,y0,())
   else
   if (!((amD usL (wi (y1.kind - 1))).raw)) = true then
   if (!((amD usL (wi (y1.kind - 1))).level)) = true then
   some (decide (¬ (y1.level = 0)),y0,())
   else
   if 0 ≤ y1.level then
   some (decide (¬ (y1.level < y0.c.levels)),y0,())
   else
   some (true,y0,())
   else
   some (false,y0,())
   else
   some (true,y0,())
  ) : Option (Bool × SyP × Unit)).bind fun z1 =>
  if z1.1 = true then
   some ((false,()),(z1.2.1,()))
  else
  if (amD usL (wi (y1.kind - 1))).ow = true then
   ((
   if 0 ≤ y1.other then
   some (decide (¬ (y1.other < z1.2.1.c.workers)),z1.2.1,())
   else
   some (true,z1.2.1,())
   ) : Option (Bool × SyP × Unit)).bind fun z2 =>
   if z2.1 = true then
   some ((false,()),(z2.2.1,()))
   else
   if y1.kind = 1 then
   if y1.kind = 1 then
   some ((decide (y1.worker = z2.2.1.c.workers),()),(z2.2.1,()))
   else
   if y1.kind = 18 then
   if 0 ≤ y1.worker then
   some ((decide (y1.worker ≤ z2.2.1.c.workers),()),(z2.2.1,()))
   else
   some ((false,()),(z2.2.1,()))
   else
   if 0 ≤ y1.worker then
   some ((decide (y1.worker < z2.2.1.c.workers),()),(z2.2.1,()))
   else
   some ((false,()),(z2.2.1,()))
   else
   if y1.kind = 2 then
   some ((decide (y1.worker = z2.2.1.c.workers),()),(z2.2.1,()))
   else
   if y1.kind = 18 then
   if 0 ≤ y1.worker then
   some ((decide (y1.worker ≤ z2.2.1.c.workers),()),(z2.2.1,()))
   else
   some ((false,()),(z2.2.1,()))
   else
   if 0 ≤ y1.worker then
   some ((decide (y1.worker < z2.2.1.c.workers),()),(z2.2.1,()))
   else
   some ((false,()),(z2.2.1,()))
  else
  if (!((amD usL (wi (y1.kind - 1))).other)) = true then
   ((
   if (!((amD usL (wi (y1.kind - 1))).ot)) = true then
   some (decide (¬ (y1.other = 0)),z1.2.1,())
   else
   if 0 ≤ y1.other then
   some (decide (¬ (y1.other < z1.2.1.c.tasks)),z1.2.1,())
   else
   some (true,z1.2.1,())
   ) : Option (Bool × SyP × Unit)).bind fun z3 =>
   if z3.1 = true then
   some ((false,()),(z3.2.1,()))
   else
   if y1.kind = 1 then
   if y1.kind = 1 then
   some ((decide (y1.worker = z3.2.1.c.workers),()),(z3.2.1,()))
   else
   if y1.kind = 18 then
   if 0 ≤ y1.worker then
   some ((decide (y1.worker ≤ z3.2.1.c.workers),()),(z3.2.1,()))
   else
   some ((false,()),(z3.2.1,()))
   else
   if 0 ≤ y1.worker then
   some ((decide (y1.worker < z3.2.1.c.workers),()),(z3.2.1,()))
   else
   some ((false,()),(z3.2.1,()))
   else
   if y1.kind = 2 then
   some ((decide (y1.worker = z3.2.1.c.workers),()),(z3.2.1,()))
   else
   if y1.kind = 18 then
   if 0 ≤ y1.worker then
   some ((decide (y1.worker ≤ z3.2.1.c.workers),()),(z3.2.1,()))
   else
   some ((false,()),(z3.2.1,()))
   else
   if 0 ≤ y1.worker then
   some ((decide (y1.worker < z3.2.1.c.workers),()),(z3.2.1,()))
   else
   some ((false,()),(z3.2.1,()))
  else
  if y1.kind = 1 then
   if y1.kind = 1 then
   some ((decide (y1.worker = z1.2.1.c.workers),()),(z1.2.1,()))
   else
   if y1.kind = 18 then
   if 0 ≤ y1.worker then
   some ((decide (y1.worker ≤ z1.2.1.c.workers),()),(z1.2.1,()))
   else
   some ((false,()),(z1.2.1,()))
   else
   if 0 ≤ y1.worker then
   some ((decide (y1.worker < z1.2.1.c.workers),()),(z1.2.1,()))
   else
   some ((false,()),(z1.2.1,()))
  else
  if y1.kind = 2 then
   some ((decide (y1.worker = z1.2.1.c.workers),()),(z1.2.1,()))
  else
  if y1.kind = 18 then
   if 0 ≤ y1.worker then
   some ((decide (y1.worker ≤ z1.2.1.c.workers),()),(z1.2.1,()))
   else
   some ((false,()),(z1.2.1,()))
  else
  if 0 ≤ y1.worker then
   some ((decide (y1.worker < z1.2.1.c.workers),()),(z1.2.1,()))
  else
  some ((false,()),(z1.2.1,()))
 else none
noncomputable abbrev adH : Con SR1 := ⟨41,[.ref 72,.val 2],[.sh .b],fun x =>aaj x.1 x.2.1⟩
noncomputable def afN : List (Nat × Func) := [(69,Tryz.f69),(70,Tryz.f70),(71,Tryz.f71)]
theorem afO : CO Tryz.prog adH := aaC aaB Tryz.func41 [] trivial afN ⟨Tryz.func69,Tryz.func70,Tryz.func71,trivial⟩ (fun _ =>[]) [(6,.cut [.rg 52 .b,.ob 0 72] [6,7,8,9]),(9,.cut [.rg 64 .b,.ob 0 72] [6,7,8,9]),(12,.cut [.rg 79 .b,.ob 0 72] [6,7,8,9])] fun x =>by kernel_rfl
noncomputable def abK (y0 : WkP) : Option ((Int × Unit) × (WkP × Unit)) :=
 if ((y0.stack.length : Nat) : Int) = 0 then
  some (((-1),()),(y0,()))
 else
 if 0 ≤ wi (((y0.stack.length : Nat) : Int) - 1) ∧ wi (((y0.stack.length : Nat) : Int) - 1) < ((y0.stack.length : Nat) : Int) then
  some ((aae y0.stack (wi (((y0.stack.length : Nat) : Int) - 1)),()),(y0,()))
 else none
noncomputable abbrev aeN : Con SR1 := ⟨75,[.ref 71],[.sh sI_],fun x =>abK x.1⟩
theorem ahs : CO Tryz.prog aeN := aaC aaB Tryz.func75 [] trivial [] trivial (fun _ =>[]) [] fun x =>by kernel_rfl
noncomputable def abp (y0 : WkP) : Option ((Bool × Unit) × (WkP × Unit)) :=
 if ((y0.stack.length : Nat) : Int) = 0 then
  some (((!y0.walks),()),(y0,()))
 else
 some ((false,()),(y0,()))
noncomputable abbrev aee : Con SR1 := ⟨77,[.ref 71],[.sh .b],fun x =>abp x.1⟩
theorem agQ : CO Tryz.prog aee := aaC aaB Tryz.func77 [] trivial [] trivial (fun _ =>[]) [] fun x =>by kernel_rfl
noncomputable def ack (y0 : TkP) (y1 : Int) : Option ((Int × Unit) × (TkP × Unit)) :=
 if y1 < 0 then
  some (((-1),()),(y0,()))
 else
 if ((y0.kids.length : Nat) : Int) ≤ y1 then
  some (((-1),()),(y0,()))
 else
 if 0 ≤ y1 ∧ y1 < ((y0.kids.length : Nat) : Int) then
  some ((aae y0.kids y1,()),(y0,()))
 else none
noncomputable abbrev adl : Con SR1 := ⟨99,[.ref 70,.sh sI_],[.sh sI_],fun x =>ack x.1 x.2.1⟩
theorem aef : CO Tryz.prog adl := aaC aaB Tryz.func99 [] trivial [] trivial (fun _ =>[]) [] fun x =>by kernel_rfl
noncomputable def aa3 (y0 : TkP) : Option ((Ins × Bool × Unit) × (TkP × Unit)) :=
 (lpF (σ := Ins × TkP × Unit) (β := (Ins × TkP × Unit) ⊕ ((Ins × Bool × Unit) × (TkP × Unit))) (fun self3 x1 =>
  if x1.2.1.at_ < ((x1.2.1.prog.length : Nat) : Int) then
   if 0 ≤ x1.2.1.at_ ∧ x1.2.1.at_ < ((x1.2.1.prog.length : Nat) : Int) then
   if ((acv x1.2.1.prog x1.2.1.at_).op) = ((acv x1.2.1.prog x1.2.1.at_).op) then
   if ((acv x1.2.1.prog x1.2.1.at_).a) = ((acv x1.2.1.prog x1.2.1.at_).a) then
   if ((acv x1.2.1.prog x1.2.1.at_).b) = ((acv x1.2.1.prog x1.2.1.at_).b) then
   if x1.2.1.at_ = x1.2.1.at_ then
   if ((acv x1.2.1.prog x1.2.1.at_).op) = 1 then
   Option.map Sum.inr (
   some ((acv x1.2.1.prog x1.2.1.at_,true,()),(x1.2.1,()))
   )
   else
   if ((acv x1.2.1.prog x1.2.1.at_).op) = 2 then
   (ack x1.2.1 ((acv x1.2.1.prog x1.2.1.at_).a)).bind fun r4 =>
   if r4.1.1 ≠ (-1) then
   Option.map Sum.inr (
   some ((acv x1.2.1.prog x1.2.1.at_,true,()),(r4.2.1,()))
   )
   else
   self3 (x1.1,({ r4.2.1 with at_ := wi (r4.2.1.at_ + 1) } : TkP),())
   else
   self3 (x1.1,({ x1.2.1 with at_ := wi (x1.2.1.at_ + 1) } : TkP),())
   else none
   else none
   else none
   else none
   else none
  else
  some (Sum.inl (x1.1,x1.2.1,()))
 ) 18446744073709551616 ((⟨0,0,0⟩ : Ins),y0,())).bind fun z2 =>match z2 with
 | .inr o5 =>some o5
 | .inl z2 =>
 some (((⟨0,0,0⟩ : Ins),false,()),(z2.2.1,()))
noncomputable abbrev adR : Con SR1 := ⟨76,[.ref 70],[.val 3,.sh .b],fun x =>aa3 x.1⟩
theorem af9 : CO Tryz.prog adR := aaC aaB Tryz.func76 [adl] ⟨aef,trivial⟩ [] trivial (fun _ =>[]) [(1,.loopR [.rg 2 (.own 3),.ob 0 70] 18446744073709551616 0)] fun x =>by kernel_rfl
noncomputable def aal (ag : Option ((Bool × Unit) × (SyP × Unit)) → Option ((Bool × Unit) × (SyP × Unit)) → Option ((Bool × Unit) × (SyP × Unit))) (y0 : SyP) (y1 : Ev) : Option ((Bool × Unit) × (SyP × Unit)) :=
 (aaj y0 y1).bind fun r1 =>
 if (!r1.1.1) = true then
  some ((false,()),(r1.2.1,()))
 else
 if 0 ≤ y1.worker ∧ y1.worker < ((r1.2.1.works.length : Nat) : Int) then
  if ((aak r1.2.1.works y1.worker).sleeps) ≠ (decide (y1.kind = 17)) then
   some ((false,()),(({ r1.2.1 with works := aaP r1.2.1.works y1.worker } : SyP),()))
  else
  if y1.kind = 12 then
   if 0 ≤ y1.task ∧ y1.task < ((r1.2.1.tasks.length : Nat) : Int) then
   if r1.2.1.c.age < 1 then
   some ((false,()),(({ r1.2.1 with works := aaP r1.2.1.works y1.worker } : SyP),()))
   else
   (abp (aak (aaP r1.2.1.works y1.worker) y1.worker)).bind fun r2 =>
   if (!r2.1.1) = true then
   some ((false,()),(({ r1.2.1 with works := (aaP r1.2.1.works y1.worker).set y1.worker.toNat r2.2.1 } : SyP),()))
   else
   if ((aaf r1.2.1.tasks y1.task).ph) = 0 then
   some ((false,()),(({ r1.2.1 with tasks := abb r1.2.1.tasks y1.task,works := (aaP r1.2.1.works y1.worker).set y1.worker.toNat r2.2.1 } : SyP),()))
   else
   if y1.level ≠ (wi (((aaf r1.2.1.tasks y1.task).lv) + 1)) then
   some ((false,()),(({ r1.2.1 with tasks := abb r1.2.1.tasks y1.task,works := (aaP r1.2.1.works y1.worker).set y1.worker.toNat r2.2.1 } : SyP),()))
   else
   some ((true,()),(({ r1.2.1 with tasks := acV r1.2.1.tasks y1.task (fun x =>{ x with lv := y1.level }),works := acU ((aaP r1.2.1.works y1.worker).set y1.worker.toNat r2.2.1) y1.worker (fun x =>{ x with last := y1 }) } : SyP),()))
   else none
  else
   if y1.kind = 11 then
   if 0 ≤ y1.task ∧ y1.task < ((r1.2.1.tasks.length : Nat) : Int) then
   if (!((aak r1.2.1.works y1.worker).walks)) = true then
   some ((false,()),(({ r1.2.1 with works := aaP r1.2.1.works y1.worker } : SyP),()))
   else
   if 0 ≤ y1.task ∧ y1.task < ((r1.2.1.tasks.length : Nat) : Int) then
   (lpF (σ := Int × Unit) (β := (Int × Unit) ⊕ ((Bool × Unit) × (SyP × Unit))) (fun self5 x3 =>
   if x3.1 ≠ (-1) then
   if x3.1 = ((aak r1.2.1.works y1.worker).walk) then
   Option.map Sum.inr (
   if y1.level ≤ ((aaf r1.2.1.tasks y1.task).lv) then
   some ((false,()),(({ r1.2.1 with tasks := abb r1.2.1.tasks y1.task,works := aaP r1.2.1.works y1.worker } : SyP),()))
   else
   if 0 ≤ (aak (aaP r1.2.1.works y1.worker) y1.worker).walk ∧ (aak (aaP r1.2.1.works y1.worker) y1.worker).walk < (((abb r1.2.1.tasks y1.task).length : Nat) : Int) then
   if ((aaf (abb r1.2.1.tasks y1.task) ((aak (aaP r1.2.1.works y1.worker) y1.worker).walk)).lv) < y1.level then
   some ((false,()),(({ r1.2.1 with tasks := abb (abb r1.2.1.tasks y1.task) ((aak (aaP r1.2.1.works y1.worker) y1.worker).walk),works := aaP (aaP r1.2.1.works y1.worker) y1.worker } : SyP),()))
   else
   if ((aak (aaP r1.2.1.works y1.worker) y1.worker).up) ≠ (-1) then
   if ((aak (aaP r1.2.1.works y1.worker) y1.worker).up) ≠ y1.level then
   some ((false,()),(({ r1.2.1 with tasks := abb (abb r1.2.1.tasks y1.task) ((aak (aaP r1.2.1.works y1.worker) y1.worker).walk),works := aaP (aaP r1.2.1.works y1.worker) y1.worker } : SyP),()))
   else
   if y1.level = y1.level then
   some ((true,()),(({ r1.2.1 with tasks := acV (abb (abb r1.2.1.tasks y1.task) ((aak (aaP r1.2.1.works y1.worker) y1.worker).walk)) y1.task (fun x =>{ x with lv := y1.level }),works := acU (aaP r1.2.1.works y1.worker) y1.worker (fun x =>{ x with up := y1.level,last := y1 }) } : SyP),()))
   else none
   else
   if y1.level = y1.level then
   some ((true,()),(({ r1.2.1 with tasks := acV (abb (abb r1.2.1.tasks y1.task) ((aak (aaP r1.2.1.works y1.worker) y1.worker).walk)) y1.task (fun x =>{ x with lv := y1.level }),works := acU (aaP r1.2.1.works y1.worker) y1.worker (fun x =>{ x with up := y1.level,last := y1 }) } : SyP),()))
   else none
   else none
   )
   else
   if 0 ≤ x3.1 ∧ x3.1 < ((r1.2.1.tasks.length : Nat) : Int) then
   self5 ((aaf r1.2.1.tasks x3.1).pa,())
   else none
   else
   some (Sum.inl (x3.1,()))
   ) 18446744073709551616 ((aaf r1.2.1.tasks y1.task).pa,())).bind fun z4 =>match z4 with
   | .inr o6 =>some o6
   | .inl z4 =>
   some ((false,()),(({ r1.2.1 with works := aaP r1.2.1.works y1.worker } : SyP),()))
   else none
   else none
   else
   if y1.kind = 10 then
   (abK (aak (aaP r1.2.1.works y1.worker) y1.worker)).bind fun r7 =>
   if y1.task = y1.task then
   if r7.1.1 ≠ y1.task then
   some ((false,()),(({ r1.2.1 with works := (aaP r1.2.1.works y1.worker).set y1.worker.toNat r7.2.1 } : SyP),()))
   else
   if 0 ≤ y1.task ∧ y1.task < ((r1.2.1.tasks.length : Nat) : Int) then
   ag (
   (aa3 (aaf r1.2.1.tasks y1.task)).bind fun r9 =>
   if y1.task = y1.task then
   if r9.1.2.1 = true then
   some ((false,()),(({ r1.2.1 with tasks := r1.2.1.tasks.set y1.task.toNat r9.2.1,works := (aaP r1.2.1.works y1.worker).set y1.worker.toNat r7.2.1 } : SyP),()))
   else
   if 0 ≤ y1.task ∧ y1.task < (((r1.2.1.tasks.set y1.task.toNat r9.2.1).length : Nat) : Int) then
   if 0 ≤ wi (((((aak ((aaP r1.2.1.works y1.worker).set y1.worker.toNat r7.2.1) y1.worker).stack).length : Nat) : Int) - 1) ∧ wi (((((aak ((aaP r1.2.1.works y1.worker).set y1.worker.toNat r7.2.1) y1.worker).stack).length : Nat) : Int) - 1) ≤ ((((aak ((aaP r1.2.1.works y1.worker).set y1.worker.toNat r7.2.1) y1.worker).stack).length : Nat) : Int) then
   some ((true,()),(({ r1.2.1 with tasks := acV (r1.2.1.tasks.set y1.task.toNat r9.2.1) y1.task (fun x =>{ x with ph := 4 }),works := acU ((aaP r1.2.1.works y1.worker).set y1.worker.toNat r7.2.1) y1.worker (fun x =>{ x with stack := (x.stack).take (wi ((((x.stack).length : Nat) : Int) - 1) : Int).toNat,last := y1 }) } : SyP),()))
   else none
   else none
   else none
   ) (
   if y1.task = y1.task then
   (aa3 (aaf r1.2.1.tasks y1.task)).bind fun r8 =>
   if r8.1.2.1 = true then
   some ((false,()),(({ r1.2.1 with tasks := r1.2.1.tasks.set y1.task.toNat r8.2.1,works := (aaP r1.2.1.works y1.worker).set y1.worker.toNat r7.2.1 } : SyP),()))
   else
   if 0 ≤ y1.task ∧ y1.task < (((r1.2.1.tasks.set y1.task.toNat r8.2.1).length : Nat) : Int) then
   if 0 ≤ wi (((((aak ((aaP r1.2.1.works y1.worker).set y1.worker.toNat r7.2.1) y1.worker).stack).length : Nat) : Int) - 1) ∧ wi (((((aak ((aaP r1.2.1.works y1.worker).set y1.worker.toNat r7.2.1) y1.worker).stack).length : Nat) : Int) - 1) ≤ ((((aak ((aaP r1.2.1.works y1.worker).set y1.worker.toNat r7.2.1) y1.worker).stack).length : Nat) : Int) then
   some ((true,()),(({ r1.2.1 with tasks := acV (r1.2.1.tasks.set y1.task.toNat r8.2.1) y1.task (fun x =>{ x with ph := 4 }),works := acU ((aaP r1.2.1.works y1.worker).set y1.worker.toNat r7.2.1) y1.worker (fun x =>{ x with stack := (x.stack).take (wi ((((x.stack).length : Nat) : Int) - 1) : Int).toNat,last := y1 }) } : SyP),()))
   else none
   else none
   else none
   )
   else none
   else none
   else
   if y1.kind = 9 then
   if 0 ≤ y1.task ∧ y1.task < ((r1.2.1.tasks.length : Nat) : Int) then
   if ((aaf r1.2.1.tasks y1.task).ph) ≠ 3 then
   some ((false,()),(({ r1.2.1 with tasks := abb r1.2.1.tasks y1.task,works := aaP r1.2.1.works y1.worker } : SyP),()))
   else
   if 0 ≤ (aaf r1.2.1.tasks y1.task).wt ∧ (aaf r1.2.1.tasks y1.task).wt < (((abb r1.2.1.tasks y1.task).length : Nat) : Int) then
   if ((aaf (abb r1.2.1.tasks y1.task) ((aaf r1.2.1.tasks y1.task).wt)).ph) ≠ 4 then
   some ((false,()),(({ r1.2.1 with tasks := abb (abb r1.2.1.tasks y1.task) ((aaf r1.2.1.tasks y1.task).wt),works := aaP r1.2.1.works y1.worker } : SyP),()))
   else
   (abp (aak (aaP r1.2.1.works y1.worker) y1.worker)).bind fun r10 =>
   if (!r10.1.1) = true then
   if ((aak ((aaP r1.2.1.works y1.worker).set y1.worker.toNat r10.2.1) y1.worker).last.kind) ≠ 10 then
   some ((false,()),(({ r1.2.1 with tasks := abb (abb r1.2.1.tasks y1.task) ((aaf r1.2.1.tasks y1.task).wt),works := aaP ((aaP r1.2.1.works y1.worker).set y1.worker.toNat r10.2.1) y1.worker } : SyP),()))
   else
   if ((aak ((aaP r1.2.1.works y1.worker).set y1.worker.toNat r10.2.1) y1.worker).last.task) ≠ ((aaf (abb (abb r1.2.1.tasks y1.task) ((aaf r1.2.1.tasks y1.task).wt)) y1.task).wt) then
   some ((false,()),(({ r1.2.1 with tasks := abb (abb (abb r1.2.1.tasks y1.task) ((aaf r1.2.1.tasks y1.task).wt)) y1.task,works := aaP ((aaP r1.2.1.works y1.worker).set y1.worker.toNat r10.2.1) y1.worker } : SyP),()))
   else
   if 0 ≤ y1.task ∧ y1.task < (((abb (abb (abb r1.2.1.tasks y1.task) ((aaf r1.2.1.tasks y1.task).wt)) y1.task).length : Nat) : Int) then
   if 0 ≤ y1.task ∧ y1.task < (((acV (abb (abb (abb r1.2.1.tasks y1.task) ((aaf r1.2.1.tasks y1.task).wt)) y1.task) y1.task (fun x =>{ x with ph := 2 })).length : Nat) : Int) then
   if (((((aak ((aaP r1.2.1.works y1.worker).set y1.worker.toNat r10.2.1) y1.worker).stack).length + ([y1.task] : List Int).length : Nat)) : Int) < 1000000000000 then
   some ((true,()),(({ r1.2.1 with tasks := acV (acV (abb (abb (abb r1.2.1.tasks y1.task) ((aaf r1.2.1.tasks y1.task).wt)) y1.task) y1.task (fun x =>{ x with ph := 2 })) y1.task (fun x =>{ x with wt := (-1) }),works := acU ((aaP r1.2.1.works y1.worker).set y1.worker.toNat r10.2.1) y1.worker (fun x =>{ x with stack := (x.stack) ++ ([y1.task]),last := y1 }) } : SyP),()))
   else none
   else none
   else none
   else
   if 0 ≤ y1.task ∧ y1.task < (((abb (abb r1.2.1.tasks y1.task) ((aaf r1.2.1.tasks y1.task).wt)).length : Nat) : Int) then
   if 0 ≤ y1.task ∧ y1.task < (((acV (abb (abb r1.2.1.tasks y1.task) ((aaf r1.2.1.tasks y1.task).wt)) y1.task (fun x =>{ x with ph := 2 })).length : Nat) : Int) then
   if (((((aak ((aaP r1.2.1.works y1.worker).set y1.worker.toNat r10.2.1) y1.worker).stack).length + ([y1.task] : List Int).length : Nat)) : Int) < 1000000000000 then
   some ((true,()),(({ r1.2.1 with tasks := acV (acV (abb (abb r1.2.1.tasks y1.task) ((aaf r1.2.1.tasks y1.task).wt)) y1.task (fun x =>{ x with ph := 2 })) y1.task (fun x =>{ x with wt := (-1) }),works := acU ((aaP r1.2.1.works y1.worker).set y1.worker.toNat r10.2.1) y1.worker (fun x =>{ x with stack := (x.stack) ++ ([y1.task]),last := y1 }) } : SyP),()))
   else none
   else none
   else none
   else none
   else none
   else
   if y1.kind = 8 then
   (abK (aak (aaP r1.2.1.works y1.worker) y1.worker)).bind fun r11 =>
   if y1.task = y1.task then
   if r11.1.1 ≠ y1.task then
   some ((false,()),(({ r1.2.1 with works := (aaP r1.2.1.works y1.worker).set y1.worker.toNat r11.2.1 } : SyP),()))
   else
   if 0 ≤ y1.task ∧ y1.task < ((r1.2.1.tasks.length : Nat) : Int) then
   (aa3 (aaf r1.2.1.tasks y1.task)).bind fun r12 =>
   if r12.1.2.1 = true then
   if r12.1.1.op = 2 then
   (ack (aaf (r1.2.1.tasks.set y1.task.toNat r12.2.1) y1.task) r12.1.1.a).bind fun r13 =>
   if y1.other = y1.other then
   if ¬ (r13.1.1 = y1.other) then
   some ((false,()),(({ r1.2.1 with tasks := (r1.2.1.tasks.set y1.task.toNat r12.2.1).set y1.task.toNat r13.2.1,works := (aaP r1.2.1.works y1.worker).set y1.worker.toNat r11.2.1 } : SyP),()))
   else
   if 0 ≤ y1.other ∧ y1.other < ((((r1.2.1.tasks.set y1.task.toNat r12.2.1).set y1.task.toNat r13.2.1).length : Nat) : Int) then
   if ((aaf ((r1.2.1.tasks.set y1.task.toNat r12.2.1).set y1.task.toNat r13.2.1) y1.other).ph) ≠ 4 then
   some ((false,()),(({ r1.2.1 with tasks := abb ((r1.2.1.tasks.set y1.task.toNat r12.2.1).set y1.task.toNat r13.2.1) y1.other,works := (aaP r1.2.1.works y1.worker).set y1.worker.toNat r11.2.1 } : SyP),()))
   else
   if 0 ≤ y1.task ∧ y1.task < (((abb ((r1.2.1.tasks.set y1.task.toNat r12.2.1).set y1.task.toNat r13.2.1) y1.other).length : Nat) : Int) then
   if 0 ≤ y1.task ∧ y1.task < (((abb (abb ((r1.2.1.tasks.set y1.task.toNat r12.2.1).set y1.task.toNat r13.2.1) y1.other) y1.task).length : Nat) : Int) then
   some ((true,()),(({ r1.2.1 with tasks := acV (abb (abb ((r1.2.1.tasks.set y1.task.toNat r12.2.1).set y1.task.toNat r13.2.1) y1.other) y1.task) y1.task (fun x =>{ x with at_ := wi (((aaf (abb ((r1.2.1.tasks.set y1.task.toNat r12.2.1).set y1.task.toNat r13.2.1) y1.other) y1.task).at_) + 1) }),works := acU ((aaP r1.2.1.works y1.worker).set y1.worker.toNat r11.2.1) y1.worker (fun x =>{ x with last := y1 }) } : SyP),()))
   else none
   else none
   else none
   else none
   else
   some ((false,()),(({ r1.2.1 with tasks := r1.2.1.tasks.set y1.task.toNat r12.2.1,works := (aaP r1.2.1.works y1.worker).set y1.worker.toNat r11.2.1 } : SyP),()))
   else
   some ((false,()),(({ r1.2.1 with tasks := r1.2.1.tasks.set y1.task.toNat r12.2.1,works := (aaP r1.2.1.works y1.worker).set y1.worker.toNat r11.2.1 } : SyP),()))
   else none
   else none
   else
   if y1.kind = 7 then
   if (!((aak r1.2.1.works y1.worker).walks)) = true then
   some ((false,()),(({ r1.2.1 with works := aaP r1.2.1.works y1.worker } : SyP),()))
   else
   if ((aak r1.2.1.works y1.worker).walk) ≠ y1.task then
   some ((false,()),(({ r1.2.1 with works := aaP r1.2.1.works y1.worker } : SyP),()))
   else
   if y1.level < ((aak r1.2.1.works y1.worker).low) then
   some ((false,()),(({ r1.2.1 with works := aaP r1.2.1.works y1.worker } : SyP),()))
   else
   if 0 ≤ y1.task ∧ y1.task < ((r1.2.1.tasks.length : Nat) : Int) then
   if ((aaf r1.2.1.tasks y1.task).lv) < y1.level then
   some ((false,()),(({ r1.2.1 with tasks := abb r1.2.1.tasks y1.task,works := aaP r1.2.1.works y1.worker } : SyP),()))
   else
   if ((aak r1.2.1.works y1.worker).up) ≠ (-1) then
   if ((aak r1.2.1.works y1.worker).up) ≠ y1.level then
   some ((false,()),(({ r1.2.1 with tasks := abb r1.2.1.tasks y1.task,works := aaP r1.2.1.works y1.worker } : SyP),()))
   else
   some ((true,()),(({ r1.2.1 with tasks := abb r1.2.1.tasks y1.task,works := acU r1.2.1.works y1.worker (fun x =>{ x with walks := false,last := y1 }) } : SyP),()))
   else
   some ((true,()),(({ r1.2.1 with tasks := abb r1.2.1.tasks y1.task,works := acU r1.2.1.works y1.worker (fun x =>{ x with walks := false,last := y1 }) } : SyP),()))
   else none
   else
   if y1.kind = 6 then
   (abK (aak (aaP r1.2.1.works y1.worker) y1.worker)).bind fun r14 =>
   if y1.task = y1.task then
   if r14.1.1 ≠ y1.task then
   some ((false,()),(({ r1.2.1 with works := (aaP r1.2.1.works y1.worker).set y1.worker.toNat r14.2.1 } : SyP),()))
   else
   if 0 ≤ y1.task ∧ y1.task < ((r1.2.1.tasks.length : Nat) : Int) then
   (aa3 (aaf r1.2.1.tasks y1.task)).bind fun r15 =>
   if r15.1.2.1 = true then
   if r15.1.1.op = 2 then
   (ack (aaf (r1.2.1.tasks.set y1.task.toNat r15.2.1) y1.task) r15.1.1.a).bind fun r16 =>
   if y1.other = y1.other then
   if ¬ (r16.1.1 = y1.other) then
   some ((false,()),(({ r1.2.1 with tasks := (r1.2.1.tasks.set y1.task.toNat r15.2.1).set y1.task.toNat r16.2.1,works := (aaP r1.2.1.works y1.worker).set y1.worker.toNat r14.2.1 } : SyP),()))
   else
   if 0 ≤ y1.other ∧ y1.other < ((((r1.2.1.tasks.set y1.task.toNat r15.2.1).set y1.task.toNat r16.2.1).length : Nat) : Int) then
   if ((aaf ((r1.2.1.tasks.set y1.task.toNat r15.2.1).set y1.task.toNat r16.2.1) y1.other).ph) = 4 then
   some ((false,()),(({ r1.2.1 with tasks := abb ((r1.2.1.tasks.set y1.task.toNat r15.2.1).set y1.task.toNat r16.2.1) y1.other,works := (aaP r1.2.1.works y1.worker).set y1.worker.toNat r14.2.1 } : SyP),()))
   else
   if 0 ≤ y1.task ∧ y1.task < (((abb ((r1.2.1.tasks.set y1.task.toNat r15.2.1).set y1.task.toNat r16.2.1) y1.other).length : Nat) : Int) then
   if y1.other = y1.other then
   if 0 ≤ wi (((((aak ((aaP r1.2.1.works y1.worker).set y1.worker.toNat r14.2.1) y1.worker).stack).length : Nat) : Int) - 1) ∧ wi (((((aak ((aaP r1.2.1.works y1.worker).set y1.worker.toNat r14.2.1) y1.worker).stack).length : Nat) : Int) - 1) ≤ ((((aak ((aaP r1.2.1.works y1.worker).set y1.worker.toNat r14.2.1) y1.worker).stack).length : Nat) : Int) then
   if y1.task = y1.task then
   some ((true,()),(({ r1.2.1 with tasks := abb (acV (acV (acV (abb ((r1.2.1.tasks.set y1.task.toNat r15.2.1).set y1.task.toNat r16.2.1) y1.other) y1.task (fun x =>{ x with at_ := wi ((x.at_) + 1) })) y1.task (fun x =>{ x with ph := 3 })) y1.task (fun x =>{ x with wt := y1.other })) y1.task,works := ((aaP r1.2.1.works y1.worker).set y1.worker.toNat r14.2.1).set y1.worker.toNat (⟨((aak ((aaP r1.2.1.works y1.worker).set y1.worker.toNat r14.2.1) y1.worker).stack).take (wi (((((aak ((aaP r1.2.1.works y1.worker).set y1.worker.toNat r14.2.1) y1.worker).stack).length : Nat) : Int) - 1) : Int).toNat,true,y1.task,(aaf (acV (acV (acV (abb ((r1.2.1.tasks.set y1.task.toNat r15.2.1).set y1.task.toNat r16.2.1) y1.other) y1.task (fun x =>{ x with at_ := wi ((x.at_) + 1) })) y1.task (fun x =>{ x with ph := 3 })) y1.task (fun x =>{ x with wt := y1.other })) y1.task).lv,(-1),(aak ((aaP r1.2.1.works y1.worker).set y1.worker.toNat r14.2.1) y1.worker).sleeps,y1⟩ : WkP) } : SyP),()))
   else none
   else none
   else none
   else none
   else none
   else none
   else
   some ((false,()),(({ r1.2.1 with tasks := r1.2.1.tasks.set y1.task.toNat r15.2.1,works := (aaP r1.2.1.works y1.worker).set y1.worker.toNat r14.2.1 } : SyP),()))
   else
   some ((false,()),(({ r1.2.1 with tasks := r1.2.1.tasks.set y1.task.toNat r15.2.1,works := (aaP r1.2.1.works y1.worker).set y1.worker.toNat r14.2.1 } : SyP),()))
   else none
   else none
   else
   if y1.kind = 5 then
   if 0 ≤ y1.task ∧ y1.task < ((r1.2.1.tasks.length : Nat) : Int) then
   if ((aaf r1.2.1.tasks y1.task).ph) ≠ 1 then
   some ((false,()),(({ r1.2.1 with tasks := abb r1.2.1.tasks y1.task,works := aaP r1.2.1.works y1.worker } : SyP),()))
   else
   (abp (aak (aaP r1.2.1.works y1.worker) y1.worker)).bind fun r17 =>
   if (!r17.1.1) = true then
   if ((aak ((aaP r1.2.1.works y1.worker).set y1.worker.toNat r17.2.1) y1.worker).last.kind) ≠ 3 then
   some ((false,()),(({ r1.2.1 with tasks := abb r1.2.1.tasks y1.task,works := aaP ((aaP r1.2.1.works y1.worker).set y1.worker.toNat r17.2.1) y1.worker } : SyP),()))
   else
   if ((aak ((aaP r1.2.1.works y1.worker).set y1.worker.toNat r17.2.1) y1.worker).last.task) ≠ y1.task then
   some ((false,()),(({ r1.2.1 with tasks := abb r1.2.1.tasks y1.task,works := aaP ((aaP r1.2.1.works y1.worker).set y1.worker.toNat r17.2.1) y1.worker } : SyP),()))
   else
   if 0 ≤ y1.task ∧ y1.task < (((abb r1.2.1.tasks y1.task).length : Nat) : Int) then
   if 0 ≤ y1.task ∧ y1.task < (((acV (abb r1.2.1.tasks y1.task) y1.task (fun x =>{ x with ph := 2 })).length : Nat) : Int) then
   if (((((aak ((aaP r1.2.1.works y1.worker).set y1.worker.toNat r17.2.1) y1.worker).stack).length + ([y1.task] : List Int).length : Nat)) : Int) < 1000000000000 then
   some ((true,()),(({ r1.2.1 with tasks := acV (acV (abb r1.2.1.tasks y1.task) y1.task (fun x =>{ x with ph := 2 })) y1.task (fun x =>{ x with wt := (-1) }),works := acU ((aaP r1.2.1.works y1.worker).set y1.worker.toNat r17.2.1) y1.worker (fun x =>{ x with stack := (x.stack) ++ ([y1.task]),last := y1 }) } : SyP),()))
   else none
   else none
   else none
   else
   if 0 ≤ y1.task ∧ y1.task < (((abb r1.2.1.tasks y1.task).length : Nat) : Int) then
   if 0 ≤ y1.task ∧ y1.task < (((acV (abb r1.2.1.tasks y1.task) y1.task (fun x =>{ x with ph := 2 })).length : Nat) : Int) then
   if (((((aak ((aaP r1.2.1.works y1.worker).set y1.worker.toNat r17.2.1) y1.worker).stack).length + ([y1.task] : List Int).length : Nat)) : Int) < 1000000000000 then
   some ((true,()),(({ r1.2.1 with tasks := acV (acV (abb r1.2.1.tasks y1.task) y1.task (fun x =>{ x with ph := 2 })) y1.task (fun x =>{ x with wt := (-1) }),works := acU ((aaP r1.2.1.works y1.worker).set y1.worker.toNat r17.2.1) y1.worker (fun x =>{ x with stack := (x.stack) ++ ([y1.task]),last := y1 }) } : SyP),()))
   else none
   else none
   else none
   else none
   else
   if y1.kind = 4 then
   if 0 ≤ y1.task ∧ y1.task < ((r1.2.1.tasks.length : Nat) : Int) then
   (abK (aak (aaP r1.2.1.works y1.worker) y1.worker)).bind fun r18 =>
   if y1.task = y1.task then
   if r18.1.1 ≠ y1.task then
   some ((false,()),(({ r1.2.1 with works := (aaP r1.2.1.works y1.worker).set y1.worker.toNat r18.2.1 } : SyP),()))
   else
   if ¬ ((wi (r1.2.1.c.tasks - r1.2.1.c.workers)) ≤ r1.2.1.known) then
   some ((false,()),(({ r1.2.1 with works := (aaP r1.2.1.works y1.worker).set y1.worker.toNat r18.2.1 } : SyP),()))
   else
   (aa3 (aaf r1.2.1.tasks y1.task)).bind fun r19 =>
   if (!r19.1.2.1) = true then
   some ((false,()),(({ r1.2.1 with tasks := r1.2.1.tasks.set y1.task.toNat r19.2.1,works := (aaP r1.2.1.works y1.worker).set y1.worker.toNat r18.2.1 } : SyP),()))
   else
   if r19.1.1.op ≠ 1 then
   some ((false,()),(({ r1.2.1 with tasks := r1.2.1.tasks.set y1.task.toNat r19.2.1,works := (aaP r1.2.1.works y1.worker).set y1.worker.toNat r18.2.1 } : SyP),()))
   else
   if (((((aaf (r1.2.1.tasks.set y1.task.toNat r19.2.1) y1.task).kids).length + ([(-1)] : List Int).length : Nat)) : Int) < 1000000000000 then
   some ((true,()),(({ r1.2.1 with tasks := acV (r1.2.1.tasks.set y1.task.toNat r19.2.1) y1.task (fun x =>{ x with at_ := wi ((x.at_) + 1),kids := (x.kids) ++ ([(-1)]) }),works := acU ((aaP r1.2.1.works y1.worker).set y1.worker.toNat r18.2.1) y1.worker (fun x =>{ x with last := y1 }) } : SyP),()))
   else none
   else none
   else none
   else
   if y1.kind = 3 then
   (abK (aak (aaP r1.2.1.works y1.worker) y1.worker)).bind fun r20 =>
   if y1.other = y1.other then
   if r20.1.1 ≠ y1.other then
   some ((false,()),(({ r1.2.1 with works := (aaP r1.2.1.works y1.worker).set y1.worker.toNat r20.2.1 } : SyP),()))
   else
   if 0 ≤ y1.task ∧ y1.task < ((r1.2.1.tasks.length : Nat) : Int) then
   if ((aaf r1.2.1.tasks y1.task).ph) ≠ 0 then
   some ((false,()),(({ r1.2.1 with tasks := abb r1.2.1.tasks y1.task,works := (aaP r1.2.1.works y1.worker).set y1.worker.toNat r20.2.1 } : SyP),()))
   else
   if 0 ≤ y1.other ∧ y1.other < (((abb r1.2.1.tasks y1.task).length : Nat) : Int) then
   (aa3 (aaf (abb r1.2.1.tasks y1.task) y1.other)).bind fun r21 =>
   if (!r21.1.2.1) = true then
   some ((false,()),(({ r1.2.1 with tasks := (abb r1.2.1.tasks y1.task).set y1.other.toNat r21.2.1,works := (aaP r1.2.1.works y1.worker).set y1.worker.toNat r20.2.1 } : SyP),()))
   else
   if r21.1.1.op ≠ 1 then
   some ((false,()),(({ r1.2.1 with tasks := (abb r1.2.1.tasks y1.task).set y1.other.toNat r21.2.1,works := (aaP r1.2.1.works y1.worker).set y1.worker.toNat r20.2.1 } : SyP),()))
   else
   if r21.1.1.b ≠ y1.level then
   some ((false,()),(({ r1.2.1 with tasks := (abb r1.2.1.tasks y1.task).set y1.other.toNat r21.2.1,works := (aaP r1.2.1.works y1.worker).set y1.worker.toNat r20.2.1 } : SyP),()))
   else
   if (((((aaf ((abb r1.2.1.tasks y1.task).set y1.other.toNat r21.2.1) y1.other).kids).length + ([y1.task] : List Int).length : Nat)) : Int) < 1000000000000 then
   if 0 ≤ r21.1.1.a ∧ r21.1.1.a < ((r1.2.1.c.progs.length : Nat) : Int) then
   if 0 ≤ y1.task ∧ y1.task < (((acV ((abb r1.2.1.tasks y1.task).set y1.other.toNat r21.2.1) y1.other (fun x =>{ x with at_ := wi ((x.at_) + 1),kids := (x.kids) ++ ([y1.task]) })).length : Nat) : Int) then
   some ((true,()),(({ r1.2.1 with tasks := (acV ((abb r1.2.1.tasks y1.task).set y1.other.toNat r21.2.1) y1.other (fun x =>{ x with at_ := wi ((x.at_) + 1),kids := (x.kids) ++ ([y1.task]) })).set y1.task.toNat (⟨1,y1.level,y1.other,atL [] r1.2.1.c.progs r21.1.1.a,0,[],(-1)⟩ : TkP),works := acU ((aaP r1.2.1.works y1.worker).set y1.worker.toNat r20.2.1) y1.worker (fun x =>{ x with last := y1 }),known := wi (r1.2.1.known + 1) } : SyP),()))
   else none
   else none
   else none
   else none
   else none
   else none
   else
   if y1.kind = 2 then
   if y1.other ≠ r1.2.1.offers then
   some ((false,()),(({ r1.2.1 with works := aaP r1.2.1.works y1.worker } : SyP),()))
   else
   if ((r1.2.1.c.subs.length : Nat) : Int) ≤ y1.other then
   some ((false,()),(({ r1.2.1 with works := aaP r1.2.1.works y1.worker } : SyP),()))
   else
   if y1.level = 1 then
   (aaE r1.2.1.queue r1.2.1.c y1).bind fun r22 =>
   if (!r22.1.1) = true then
   some ((false,()),(({ r1.2.1 with works := aaP r1.2.1.works y1.worker,queue := r22.2.1 } : SyP),()))
   else
   some ((true,()),(({ r1.2.1 with works := acU (aaP r1.2.1.works y1.worker) y1.worker (fun x =>{ x with last := y1 }),offers := wi (r1.2.1.offers + 1),queue := r22.2.1 } : SyP),()))
   else
   if y1.level = 2 then
   if r1.2.1.c.heap ≤ ((r1.2.1.queue.keys.length : Nat) : Int) then
   some ((false,()),(({ r1.2.1 with works := aaP r1.2.1.works y1.worker } : SyP),()))
   else
   if ¬ ((wi (r1.2.1.c.tasks - r1.2.1.c.workers)) ≤ r1.2.1.known) then
   some ((false,()),(({ r1.2.1 with works := aaP r1.2.1.works y1.worker } : SyP),()))
   else
   some ((true,()),(({ r1.2.1 with works := acU r1.2.1.works y1.worker (fun x =>{ x with last := y1 }),offers := wi (r1.2.1.offers + 1) } : SyP),()))
   else
   some ((false,()),(({ r1.2.1 with works := aaP r1.2.1.works y1.worker } : SyP),()))
   else
   if y1.kind = 1 then
   if y1.other ≠ r1.2.1.offers then
   some ((false,()),(({ r1.2.1 with works := aaP r1.2.1.works y1.worker } : SyP),()))
   else
   if ((r1.2.1.c.subs.length : Nat) : Int) ≤ y1.other then
   some ((false,()),(({ r1.2.1 with works := aaP r1.2.1.works y1.worker } : SyP),()))
   else
   if 0 ≤ y1.other ∧ y1.other < ((r1.2.1.c.subs.length : Nat) : Int) then
   if y1.level ≠ ((ac1 r1.2.1.c.subs y1.other).level) then
   some ((false,()),(({ r1.2.1 with works := aaP r1.2.1.works y1.worker } : SyP),()))
   else
   if 0 ≤ y1.task ∧ y1.task < ((r1.2.1.tasks.length : Nat) : Int) then
   if ((aaf r1.2.1.tasks y1.task).ph) ≠ 0 then
   some ((false,()),(({ r1.2.1 with tasks := abb r1.2.1.tasks y1.task,works := aaP r1.2.1.works y1.worker } : SyP),()))
   else
   (aaE r1.2.1.queue r1.2.1.c y1).bind fun r23 =>
   if (!r23.1.1) = true then
   some ((false,()),(({ r1.2.1 with tasks := abb r1.2.1.tasks y1.task,works := aaP r1.2.1.works y1.worker,queue := r23.2.1 } : SyP),()))
   else
   if 0 ≤ y1.other ∧ y1.other < ((r1.2.1.c.subs.length : Nat) : Int) then
   if 0 ≤ (ac1 r1.2.1.c.subs y1.other).prog ∧ (ac1 r1.2.1.c.subs y1.other).prog < ((r1.2.1.c.progs.length : Nat) : Int) then
   if 0 ≤ y1.task ∧ y1.task < (((abb r1.2.1.tasks y1.task).length : Nat) : Int) then
   some ((true,()),((⟨r1.2.1.c,(abb r1.2.1.tasks y1.task).set y1.task.toNat (⟨1,y1.level,(-1),atL [] r1.2.1.c.progs ((ac1 r1.2.1.c.subs y1.other).prog),0,[],(-1)⟩ : TkP),acU (aaP r1.2.1.works y1.worker) y1.worker (fun x =>{ x with last := y1 }),wi (r1.2.1.offers + 1),wi (r1.2.1.known + 1),r23.2.1⟩ : SyP),()))
   else none
   else none
   else none
   else none
   else none
   else
   if 0 ≤ y1.task ∧ y1.task < ((r1.2.1.tasks.length : Nat) : Int) then
   if y1.kind = 13 then
   (abp (aak (aaP r1.2.1.works y1.worker) y1.worker)).bind fun r24 =>
   if r24.1.1 = true then
   (aaE r1.2.1.queue r1.2.1.c y1).bind fun r25 =>
   if (!r25.1.1) = true then
   some ((false,()),(({ r1.2.1 with tasks := abb r1.2.1.tasks y1.task,works := (aaP r1.2.1.works y1.worker).set y1.worker.toNat r24.2.1,queue := r25.2.1 } : SyP),()))
   else
   some ((true,()),(({ r1.2.1 with tasks := abb r1.2.1.tasks y1.task,works := acU ((aaP r1.2.1.works y1.worker).set y1.worker.toNat r24.2.1) y1.worker (fun x =>{ x with last := y1 }),queue := r25.2.1 } : SyP),()))
   else
   some ((false,()),(({ r1.2.1 with tasks := abb r1.2.1.tasks y1.task,works := (aaP r1.2.1.works y1.worker).set y1.worker.toNat r24.2.1 } : SyP),()))
   else
   if y1.kind = 14 then
   (abp (aak (aaP r1.2.1.works y1.worker) y1.worker)).bind fun r26 =>
   if r26.1.1 = true then
   if y1.other ≠ y1.worker then
   if ¬ (((aaf r1.2.1.tasks y1.task).ph) ≠ 0) then
   some ((false,()),(({ r1.2.1 with tasks := abb r1.2.1.tasks y1.task,works := (aaP r1.2.1.works y1.worker).set y1.worker.toNat r26.2.1 } : SyP),()))
   else
   some ((true,()),(({ r1.2.1 with tasks := abb r1.2.1.tasks y1.task,works := acU ((aaP r1.2.1.works y1.worker).set y1.worker.toNat r26.2.1) y1.worker (fun x =>{ x with last := y1 }) } : SyP),()))
   else
   some ((false,()),(({ r1.2.1 with tasks := abb r1.2.1.tasks y1.task,works := (aaP r1.2.1.works y1.worker).set y1.worker.toNat r26.2.1 } : SyP),()))
   else
   some ((false,()),(({ r1.2.1 with tasks := abb r1.2.1.tasks y1.task,works := (aaP r1.2.1.works y1.worker).set y1.worker.toNat r26.2.1 } : SyP),()))
   else
   if y1.kind = 15 then
   if ((aaf r1.2.1.tasks y1.task).ph) ≠ 0 then
   if 0 ≤ y1.task ∧ y1.task < (((abb r1.2.1.tasks y1.task).length : Nat) : Int) then
   if ¬ (((aaf (abb r1.2.1.tasks y1.task) y1.task).ph) ≠ 1) then
   some ((false,()),(({ r1.2.1 with tasks := abb (abb r1.2.1.tasks y1.task) y1.task,works := aaP r1.2.1.works y1.worker } : SyP),()))
   else
   some ((true,()),(({ r1.2.1 with tasks := abb (abb r1.2.1.tasks y1.task) y1.task,works := acU r1.2.1.works y1.worker (fun x =>{ x with last := y1 }) } : SyP),()))
   else none
   else
   some ((false,()),(({ r1.2.1 with tasks := abb r1.2.1.tasks y1.task,works := aaP r1.2.1.works y1.worker } : SyP),()))
   else
   if y1.kind = 16 then
   (abp (aak (aaP r1.2.1.works y1.worker) y1.worker)).bind fun r27 =>
   if (!((aak (acU ((aaP r1.2.1.works y1.worker).set y1.worker.toNat r27.2.1) y1.worker (fun x =>{ x with sleeps := r27.1.1 })) y1.worker).sleeps)) = true then
   some ((false,()),(({ r1.2.1 with tasks := abb r1.2.1.tasks y1.task,works := acU ((aaP r1.2.1.works y1.worker).set y1.worker.toNat r27.2.1) y1.worker (fun x =>{ x with sleeps := r27.1.1 }) } : SyP),()))
   else
   some ((true,()),(({ r1.2.1 with tasks := abb r1.2.1.tasks y1.task,works := acU (acU ((aaP r1.2.1.works y1.worker).set y1.worker.toNat r27.2.1) y1.worker (fun x =>{ x with sleeps := r27.1.1 })) y1.worker (fun x =>{ x with last := y1 }) } : SyP),()))
   else
   if y1.kind = 17 then
   if y1.other ≠ 1 then
   if ¬ (¬ (y1.other ≠ 2)) then
   some ((false,()),(({ r1.2.1 with tasks := abb r1.2.1.tasks y1.task,works := acU r1.2.1.works y1.worker (fun x =>{ x with sleeps := decide (y1.other ≠ 2) }) } : SyP),()))
   else
   some ((true,()),(({ r1.2.1 with tasks := abb r1.2.1.tasks y1.task,works := acU r1.2.1.works y1.worker (fun x =>{ x with sleeps := decide (y1.other ≠ 2),last := y1 }) } : SyP),()))
   else
   some ((true,()),(({ r1.2.1 with tasks := abb r1.2.1.tasks y1.task,works := acU r1.2.1.works y1.worker (fun x =>{ x with sleeps := false,last := y1 }) } : SyP),()))
   else
   if y1.kind = 19 then
   if ¬ (((aaf r1.2.1.tasks y1.task).ph) ≠ 0) then
   some ((false,()),(({ r1.2.1 with tasks := abb r1.2.1.tasks y1.task,works := aaP r1.2.1.works y1.worker } : SyP),()))
   else
   some ((true,()),(({ r1.2.1 with tasks := abb r1.2.1.tasks y1.task,works := acU r1.2.1.works y1.worker (fun x =>{ x with last := y1 }) } : SyP),()))
   else
   some ((true,()),(({ r1.2.1 with tasks := abb r1.2.1.tasks y1.task,works := acU r1.2.1.works y1.worker (fun x =>{ x with last := y1 }) } : SyP),()))
   else none
 else none
noncomputable abbrev acR (y0 : SyP) (y1 : Ev) : Option ((Bool × Unit) × (SyP × Unit)) := aal agr y0 y1
noncomputable def aah (y0 : SyP) (y1 : Ev) : Option ((Bool × Unit) × (SyP × Unit)) := aal (fun x _ =>x) y0 y1
noncomputable abbrev adm : Con SR1 := ⟨26,[.ref 72,.val 2],[.sh .b],fun x =>acR x.1 x.2.1⟩
noncomputable def afc : List (Nat × Func) := [(53,Tryz.f53),(52,Tryz.f52),(80,Tryz.f80),(51,Tryz.f51),(50,Tryz.f50),(78,Tryz.f78),(49,Tryz.f49),(79,Tryz.f79),(48,Tryz.f48),(47,Tryz.f47),(46,Tryz.f46),(45,Tryz.f45),(74,Tryz.f74),(44,Tryz.f44),(73,Tryz.f73),(43,Tryz.f43),(42,Tryz.f42),(54,Tryz.f54)]
theorem afd : CO Tryz.prog adm := aaC aaB Tryz.func26 [adH,aee,aeN,adR,adl,adF] ⟨afO,agQ,ahs,af9,aef,afK,trivial⟩ afc ⟨Tryz.func53,Tryz.func52,Tryz.func80,Tryz.func51,Tryz.func50,Tryz.func78,Tryz.func49,Tryz.func79,Tryz.func48,Tryz.func47,Tryz.func46,Tryz.func45,Tryz.func74,Tryz.func44,Tryz.func73,Tryz.func43,Tryz.func42,Tryz.func54,trivial⟩ (fun f =>(get [(80,[(2,.loopR [.rg 7 sI_] 18446744073709551616 0)])] f).getD []) [] fun x =>by kernel_rfl
noncomputable abbrev adT : Con SR1 := ⟨26,[.ref 72,.val 2],[.sh .b],fun x =>aah x.1 x.2.1⟩
theorem agd (y0 : SyP) (y1 : Ev) : acR y0 y1 = aah y0 y1 := by
 unfold acR aah aal
 simp only [if_true,acT,aj4]
 try rfl
theorem agc : CO Tryz.prog adT := ayG afd fun x out hx =>(show adm.spec x = some out from (agd x.1 x.2.1).trans hx)
end
end Go.Proofs.YtkmkhldmflebkaaGreat
