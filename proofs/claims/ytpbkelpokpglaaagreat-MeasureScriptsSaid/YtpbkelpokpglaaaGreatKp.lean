/- The reference, function by function: aging, parking. -/
import Derived.Test.YtpbkelpokpglaaaGreatKm
import Derived.Test.YtpbkelpokpglaaaGreatKk
import Derived.Test.YtpbkelpokpglaaaGreatRows
set_option linter.all false
namespace Go.Proofs.YtpbkelpokpglaaaGreat
open Go Go.RowKit
set_option maxRecDepth 100000
set_option maxHeartbeats 2000000
variable {c : Cfg} {m : MemV} {now draw : Int} {recs : List RecV} {evs : List Ev} {f : FrV}
def r8sweep_s (c : Cfg) (m : MemV) (now : Int) (recs : List RecV) (evs : List Ev) (f : FrV) : Option (ResV × MemV × (List Ev) × FrV) :=
 if ((!(etask_s c recs f.b)) = true) ∨ (c.age = 0) then
  some ((r8end_s 0 0), m, evs, f)
 else
 if f.line = 1 then
  bT (eload_s m (r6state_s c f.b)) fun r6 =>
  if r6.1 ≠ 1 then
   some ((r8end_s 0 0), r6.2, evs, f)
  else
  some ((⟨false, 0, 0⟩ : ResV), r6.2, evs, ({ f with line := (wi (f.line + 1)) } : FrV))
 else
 if f.line = 2 then
  bT (eload_s m (r6since_s c f.b)) fun r9 =>
  if (wi (now - (wi r9.1))) < c.age then
   some ((r8end_s 0 0), r9.2, evs, f)
  else
  some ((⟨false, 0, 0⟩ : ResV), r9.2, evs, ({ f with line := (wi (f.line + 1)) } : FrV))
 else
 if f.line = 3 then
  bT (eload_s m (r6level_s c f.b)) fun r28 =>
  if (wi (c.levels - 1)) ≤ (wi r28.1) then
   some ((r8end_s 0 0), r28.2, evs, ({ f with t := (wi ((wi r28.1) + 1)), u := r28.1 } : FrV))
  else
  some ((⟨false, 0, 0⟩ : ResV), r28.2, evs, ({ f with line := (wi (f.line + 1)), t := (wi ((wi r28.1) + 1)), u := r28.1 } : FrV))
 else
 if f.line = 4 then
  bT (ecas_s m (r6level_s c f.b) f.u (wu (f.u + 1))) fun r31 =>
  if (!r31.1) = true then
   some ((r8end_s 4 0), r31.2, evs, f)
  else
  (eemit_s evs 12 f.a f.b 0 f.t).bind fun r33 =>
  some ((⟨false, 0, 0⟩ : ResV), r31.2, r33, ({ f with line := (wi (f.line + 1)) } : FrV))
 else
 bT (estore_s m (r6since_s c f.b) (wu now)) fun r34 =>
 some ((⟨false, 0, 0⟩ : ResV), r34, evs, ({ f with line := (wi (f.line + 1)) } : FrV))
theorem r8sweep_ok {o : ResV × MemV × (List Ev) × FrV} (hs : r8sweep_s c m now recs evs f = some o) (eb : Nat) (l : CfgAt) (RA : Option Addr) (RC : Nat) (fb fo : Nat)  (B : Nat) (W : World)  : Fn_ Tryz.prog 133 #[vp eb 0, vp fb fo] B W [cP eb c l, memS eb 11 m, pts eb 17 [vi now], pts eb 19 [.slice RA recs.length RC], evsS eb 20 evs, frS fb fo f] (X := Unit) (fun x => .agg #[.bool (o.1.done), vi o.1.code, vi o.1.value]) (fun x => [cP eb c l, memS eb 11 o.2.1, pts eb 17 [vi now], pts eb 19 [.slice RA recs.length RC], evsS eb 20 o.2.2.1, frS fb fo o.2.2.2]) := by
 unfold r8sweep_s at hs
 refine fe2 Tryz.func133 166 rfl (fun F => ?_)
 refine q2 (rn (al [.bool false, zi, zi]) ?_)
 rintro b1
 refine q1 (cS (cS (ct_open pick6 ?_)))
 rintro ⟨A2, c2⟩
 refine ct_cut (X := Unit) (fun _ => True) (fun _ => [(19, .bool (decide (((!(etask_s c recs f.b)) = true) ∨ (c.age = 0)))), (4, vp b1 0), (0, vp eb 0), (1, vp fb fo)]) (fun _ => pts fb fo [vi f.kind, vi f.line, vi f.q.top, vi f.q.bottom, vi f.q.ring, vi f.q.cap, vi f.a, vi f.b, vi f.d, vi f.i, vi f.j, vi f.n, vi f.t, vu f.u, vu f.v, vu f.w, vu f.x, .slice A2 f.l.length c2] :: roS encInt 1 A2 c2 f.l :: pts b1 0 [.bool false, zi, zi] :: cP eb c l :: memS eb 11 m :: pts eb 17 [vi now] :: pts eb 19 [.slice RA recs.length RC] :: evsS eb 20 evs :: [F]) ?_ (fun _ _ => (?_ : CT _ _ _ _ _ _ _ _ _))
 ·refine cR (zp (mv m1) (zp (mv m3) (zp (nc m0) (zp (fd 7 (fo + 7) m0) (zq (ld fo 7 m0 e0 rfl) (zq (cq (.cons m4 (.cons m0 .nil)) (etask_ok (o := etask_s c recs f.b) rfl eb l RA RC _ _) (p3 (p5 pn))) (zp (op_notb m0) (zp (mv m0) (rt_caseb t0 t0 (fun h3 => ?_) (fun h3 => ?_))))))))))
  ·exact zk rfl rfl e0 (zk rfl rfl e1 (zk rfl rfl e2 (zk rfl rfl e3 (zk rfl rfl e4 (zk rfl rfl e5 (zp (op_pick (b := true) m6 .const) (rN (et_cut () trivial (.cons e0 (by simp only [eq_true h3, ↓reduceIte, reduceCtorEq, bS]) (lc e15 (lc e16 (lc e17 .nil)))) Ent.refl))))))))
  exact zw (mv m9).q rfl rfl e0 (zw (nc m0).q rfl rfl e1 (zw (fd 0 0 m0).q rfl rfl e2 (zw (fd 7 7 m0).q rfl rfl e3 (zw (ld 0 7 m0 e3 rfl) rfl rfl e4 (zw (eqL m0 .const).q rfl rfl e5 (zp (op_pick (b := false) m6 m0) (rN (et_cut () trivial (.cons e0 (by simp only [eq_false (bne_t h3), ↓reduceIte, reduceCtorEq, bS]) (lc e15 (lc e16 (lc e17 .nil)))) Ent.refl))))))))
 refine ci hs m0 (fun h4 hs => ?_) (fun h4 hs => ?_)
 ·refine q2 (zq (cq (.cons .const (.cons .const .nil)) (r8end_ok (o := r8end_s 0 0) rfl  _ _) pn) (rz (sta 0 m2 m0 t2) (q4 (tR (pkE (p1 pn) (tE ro_dup (pkE (p2 pn) (sf f ?_))))))))
  obtain rfl := sI hs
  exact fa e2 e2 (d2 (eP (p1 (p1 (p1 (p1 (p1 (p1 (p1 pn)))))))))
 refine cK (tT (cS (q2 (zp (mv m3) (zp (nc m0) (zp (fd 1 (fo + 1) m0) (zq (ld fo 1 m0 e0 rfl) (q1 (cB (q2 (zp (eqL m0 .const) (zp (asg m0) (q1 (ci hs m0 (fun h5 hs => ?_) (fun h5 hs => ?_)))))))))))))))
 ·refine cS (ca 12 ?_)
  refine zt 0 rfl (mv m8) ?_
  refine zt 1 rfl (mv m9) ?_
  refine zt 2 rfl (nc m0) ?_
  refine zt 3 rfl (fd 0 0 m0) ?_
  refine zt 5 rfl (mv m13) ?_
  refine zt 6 rfl (nc m0) ?_
  refine zt 7 rfl (fd 7 (fo + 7) m0) ?_
  refine at_group [4, 8, 9] 2 rfl (by kernel_rfl) rfl ?_
  refine yq (lda 0 m3 e3) (yq (ld fo 7 m1 e0 rfl) (yq (cq (.cons m1 (.cons m0 .nil)) (r6state_ok (o := r6state_s c f.b) rfl l _ _) pn) (qN ?_)))
  obtain ⟨r6, hr6, hs⟩ := bF hs
  refine tu 10 rfl (co (.cons m9 (.cons m0 .nil)) (eload_ok hr6 eb _ _) (p4 pn)) ?_
  refine zt 11 rfl (op_neq m0 .const) ?_
  refine zz ?_
  refine tT (ci hs m0 (fun h7 hs => ?_) (fun h7 hs => ?_))
  ·refine q2 (zq (cq (.cons .const (.cons .const .nil)) (r8end_ok (o := r8end_s 0 0) rfl  _ _) pn) (rz (sta 0 (mU m0) m0 t3) (q4 (bR (tR (pkE (p2 pn) (tE ro_dup (pkE (p3 pn) (sf f ?_)))))))))
   obtain rfl := sI hs
   exact fa (eU e0) e3 (d2 (eP (p1 (p2 (p2 (p1 (p1 (p1 (p1 pn)))))))))
  refine cK (tB (tT (q2 (zp (mv (mU m1)) (zp (nc m0) (zp (fd 1 (fo + 1) m0) (zq (ld fo 1 m0 e1 rfl) (zp (aI m0 .const) (zp (nc m4) (zp (fd 1 (fo + 1) m0) (rz (st1 fo w1 m0 m2 t1) (q3 (zp bz (rz (sta 0 (mU m7) m0 t3) (q4 (pkE (p2 pn) (tE ro_dup (pkE (p3 pn) (sf ({ f with line := (wi (f.line + 1)) } : FrV) ?_)))))))))))))))))))
  obtain rfl := sI hs
  exact fa (eU e7) e3 (d2 (eP (p1 (p2 (p2 (p1 (p1 (p1 (p1 pn)))))))))
 refine q2 (zp (eqL m2 .const) (zp (asg m0) (q1 (ci hs m0 (fun h8 hs => ?_) (fun h8 hs => ?_)))))
 ·refine cS ?_
  obtain ⟨r9, hr9, hs⟩ := bF hs
  refine ct_cutG (S := Unit) (G := Unit) (fun _ => True) (fun _ _ => [(80, .bool (decide ((wi (now - (wi r9.1))) < c.age))), (4, vp b1 0), (1, vp fb fo)]) (fun _ _ => memS eb 11 r9.2 :: pts fb fo [vi f.kind, vi f.line, vi f.q.top, vi f.q.bottom, vi f.q.ring, vi f.q.cap, vi f.a, vi f.b, vi f.d, vi f.i, vi f.j, vi f.n, vi f.t, vu f.u, vu f.v, vu f.w, vu f.x, .slice A2 f.l.length c2] :: roS encInt 1 A2 c2 f.l :: pts b1 0 [.bool false, zi, zi] :: cP eb c l :: pts eb 17 [vi now] :: pts eb 19 [.slice RA recs.length RC] :: evsS eb 20 evs :: [F]) ?_ (fun _ _ _ => (?_ : CT _ _ _ _ _ _ _ _ _))
  ·refine ca 23 ?_
   refine at_key (X := fun A_ => A_ #[true, true, true, true, true, true, true, true, true, true, true, true, true, true, false, false, false, true, true, true, true, true, false] 4 [(79, vi c.age), (71, vi ((r6since_s c f.b))), (61, vi now), (62, vp eb 0), (4, vp b1 0), (1, vp fb fo)] (pts fb fo [vi f.kind, vi f.line, vi f.q.top, vi f.q.bottom, vi f.q.ring, vi f.q.cap, vi f.a, vi f.b, vi f.d, vi f.i, vi f.j, vi f.n, vi f.t, vu f.u, vu f.v, vu f.w, vu f.x, .slice A2 f.l.length c2] :: roS encInt 1 A2 c2 f.l :: pts b1 0 [.bool false, zi, zi] :: cP eb c l :: memS eb 11 m :: pts eb 17 [vi now] :: pts eb 19 [.slice RA recs.length RC] :: evsS eb 20 evs :: [F])) ?_ (fun k12 => ?_)
   ·show AT _ _ _ _ _ _ _ _ _ _
    refine tu 14 rfl (co (.cons m3 (.cons m1 .nil)) (eload_ok hr9 eb _ _) (p4 pn)) ?_
    refine zt 15 rfl (op_convI m0 Tryz.underlying50 Tryz.underlying3) ?_
    refine zt 16 rfl (op_subI m4 m0) ?_
    refine zt 22 rfl (op_lss m0 m3) ?_
    refine zz ?_
    exact aK () () trivial (lc e0 (lc e8 (lc e9 lN))) Ent.refl
   refine at_key (X := fun A_ => A_ #[true, true, true, true, true, true, true, true, true, true, true, true, true, false, false, false, false, true, true, true, true, false, false] 6 [(70, vi f.b), (66, .agg #[vi c.workers, vi c.levels, vi c.classes, vi c.tasks, vi c.deque, vi c.heap, vi c.batch, vi c.age, vi c.patience, .slice l.pa c.progs.length l.pc, .slice l.sa c.subs.length l.sc]), (61, vi now), (78, vp eb 7), (62, vp eb 0), (4, vp b1 0), (1, vp fb fo)] (pts fb fo [vi f.kind, vi f.line, vi f.q.top, vi f.q.bottom, vi f.q.ring, vi f.q.cap, vi f.a, vi f.b, vi f.d, vi f.i, vi f.j, vi f.n, vi f.t, vu f.u, vu f.v, vu f.w, vu f.x, .slice A2 f.l.length c2] :: roS encInt 1 A2 c2 f.l :: pts b1 0 [.bool false, zi, zi] :: cP eb c l :: memS eb 11 m :: pts eb 17 [vi now] :: pts eb 19 [.slice RA recs.length RC] :: evsS eb 20 evs :: [F])) ?_ (fun k16 => ?_)
   ·show AT _ _ _ _ _ _ _ _ _ _
    refine x2 13 21 ?_ ?_
    ·refine zs rfl (cq (.cons m1 (.cons m0 .nil)) (r6since_ok (o := r6since_s c f.b) rfl l _ _) pn) ?_
     refine x2 14 21 ?_ ?_
     ·refine uu rfl (co (.cons m5 (.cons m0 .nil)) (eload_ok hr9 eb _ _) (p4 pn)) ?_
      refine zt 15 rfl (op_convI m0 Tryz.underlying50 Tryz.underlying3) ?_
      refine zt 16 rfl (op_subI m5 m0) ?_
      refine za 21 rfl (ld 0 7 m7 e4 rfl) ?_
      refine zt 22 rfl (op_lss m1 m0) ?_
      refine zz ?_
      exact aK () () trivial (lc e0 (lc e11 (lc e12 lN))) Ent.refl
     refine zs rfl (ld 0 7 m4 e3 rfl) ?_
     exact at_use k12 (lc e0 (lc e1 (lc e4 (lc e6 (lc e7 (lc e8 lN)))))) Ent.refl
    refine zs rfl (ld 0 7 m3 e3 rfl) ?_
    refine za 13 rfl (cq (.cons m2 (.cons m1 .nil)) (r6since_ok (o := r6since_s c f.b) rfl l _ _) pn) ?_
    exact at_use k12 (lc e1 (lc e0 (lc e4 (lc e6 (lc e7 (lc e8 lN)))))) Ent.refl
   refine at_key (X := fun A_ => A_ #[true, true, true, false, true, true, true, true, true, true, true, true, true, false, false, false, false, true, true, true, true, true, false] 6 [(79, vi c.age), (70, vi f.b), (66, .agg #[vi c.workers, vi c.levels, vi c.classes, vi c.tasks, vi c.deque, vi c.heap, vi c.batch, vi c.age, vi c.patience, .slice l.pa c.progs.length l.pc, .slice l.sa c.subs.length l.sc]), (62, vp eb 0), (60, vp eb 17), (4, vp b1 0), (1, vp fb fo)] (pts fb fo [vi f.kind, vi f.line, vi f.q.top, vi f.q.bottom, vi f.q.ring, vi f.q.cap, vi f.a, vi f.b, vi f.d, vi f.i, vi f.j, vi f.n, vi f.t, vu f.u, vu f.v, vu f.w, vu f.x, .slice A2 f.l.length c2] :: roS encInt 1 A2 c2 f.l :: pts b1 0 [.bool false, zi, zi] :: cP eb c l :: memS eb 11 m :: pts eb 17 [vi now] :: pts eb 19 [.slice RA recs.length RC] :: evsS eb 20 evs :: [F])) ?_ (fun k19 => ?_)
   ·show AT _ _ _ _ _ _ _ _ _ _
    refine x2 3 13 ?_ ?_
    ·refine zs rfl (ld 17 0 m4 e5 rfl) ?_
     refine za 13 rfl (cq (.cons m3 (.cons m2 .nil)) (r6since_ok (o := r6since_s c f.b) rfl l _ _) pn) ?_
     exact at_use k12 (lc e2 (lc e0 (lc e1 (lc e5 (lc e7 (lc e8 lN)))))) Ent.refl
    refine zs rfl (cq (.cons m2 (.cons m1 .nil)) (r6since_ok (o := r6since_s c f.b) rfl l _ _) pn) ?_
    refine x2 3 14 ?_ ?_
    ·refine zs rfl (ld 17 0 m5 e5 rfl) ?_
     exact at_use k12 (lc e2 (lc e1 (lc e0 (lc e5 (lc e7 (lc e8 lN)))))) Ent.refl
    refine uu rfl (co (.cons m4 (.cons m0 .nil)) (eload_ok hr9 eb _ _) (p4 pn)) ?_
    refine zt 15 rfl (op_convI m0 Tryz.underlying50 Tryz.underlying3) ?_
    refine za 3 rfl (ld 17 0 m7 e5 rfl) ?_
    refine zt 16 rfl (op_subI m0 m1) ?_
    refine zt 22 rfl (op_lss m0 m5) ?_
    refine zz ?_
    exact aK () () trivial (lc e0 (lc e11 (lc e12 lN))) Ent.refl
   refine at_key (X := fun A_ => A_ #[true, true, true, false, true, true, true, true, true, true, true, true, true, false, false, false, false, true, true, true, true, false, false] 7 [(70, vi f.b), (66, .agg #[vi c.workers, vi c.levels, vi c.classes, vi c.tasks, vi c.deque, vi c.heap, vi c.batch, vi c.age, vi c.patience, .slice l.pa c.progs.length l.pc, .slice l.sa c.subs.length l.sc]), (78, vp eb 7), (62, vp eb 0), (60, vp eb 17), (4, vp b1 0), (1, vp fb fo)] (pts fb fo [vi f.kind, vi f.line, vi f.q.top, vi f.q.bottom, vi f.q.ring, vi f.q.cap, vi f.a, vi f.b, vi f.d, vi f.i, vi f.j, vi f.n, vi f.t, vu f.u, vu f.v, vu f.w, vu f.x, .slice A2 f.l.length c2] :: roS encInt 1 A2 c2 f.l :: pts b1 0 [.bool false, zi, zi] :: cP eb c l :: memS eb 11 m :: pts eb 17 [vi now] :: pts eb 19 [.slice RA recs.length RC] :: evsS eb 20 evs :: [F])) ?_ (fun k23 => ?_)
   ·show AT _ _ _ _ _ _ _ _ _ _
    refine x3 3 13 21 ?_ ?_ ?_
    ·refine zs rfl (ld 17 0 m4 e5 rfl) ?_
     exact at_use k16 (lc e1 (lc e2 (lc e0 (lc e3 (lc e4 (lc e6 (lc e7 lN))))))) Ent.refl
    ·refine zs rfl (cq (.cons m1 (.cons m0 .nil)) (r6since_ok (o := r6since_s c f.b) rfl l _ _) pn) ?_
     refine x3 3 14 21 ?_ ?_ ?_
     ·refine zs rfl (ld 17 0 m5 e5 rfl) ?_
      refine x2 14 21 ?_ ?_
      ·refine uu rfl (co (.cons m5 (.cons m1 .nil)) (eload_ok hr9 eb _ _) (p4 pn)) ?_
       refine zt 15 rfl (op_convI m0 Tryz.underlying50 Tryz.underlying3) ?_
       refine zt 16 rfl (op_subI m2 m0) ?_
       refine za 21 rfl (ld 0 7 m7 e4 rfl) ?_
       refine zt 22 rfl (op_lss m1 m0) ?_
       refine zz ?_
       exact aK () () trivial (lc e0 (lc e12 (lc e13 lN))) Ent.refl
      refine zs rfl (ld 0 7 m4 e3 rfl) ?_
      exact at_use k12 (lc e0 (lc e2 (lc e1 (lc e6 (lc e8 (lc e9 lN)))))) Ent.refl
     ·refine uu rfl (co (.cons m4 (.cons m0 .nil)) (eload_ok hr9 eb _ _) (p4 pn)) ?_
      refine zt 15 rfl (op_convI m0 Tryz.underlying50 Tryz.underlying3) ?_
      refine at_group [3, 16, 21, 22] 0 rfl (by kernel_rfl) rfl ?_
      refine yq (ld 17 0 m7 e5 rfl) (yp (op_subI m0 m1) (yq (ld 0 7 m7 e4 rfl) (yp (op_lss m1 m0) (qN (zz ?_)))))
      exact aK () () trivial (lc e0 (lc e12 (lc e13 lN))) Ent.refl
     refine zs rfl (ld 0 7 m3 e3 rfl) ?_
     refine x2 3 14 ?_ ?_
     ·refine zs rfl (ld 17 0 m6 e5 rfl) ?_
      exact at_use k12 (lc e1 (lc e2 (lc e0 (lc e6 (lc e8 (lc e9 lN)))))) Ent.refl
     refine uu rfl (co (.cons m5 (.cons m1 .nil)) (eload_ok hr9 eb _ _) (p4 pn)) ?_
     refine zt 15 rfl (op_convI m0 Tryz.underlying50 Tryz.underlying3) ?_
     refine za 3 rfl (ld 17 0 m8 e5 rfl) ?_
     refine zt 16 rfl (op_subI m0 m1) ?_
     refine zt 22 rfl (op_lss m0 m4) ?_
     refine zz ?_
     exact aK () () trivial (lc e0 (lc e12 (lc e13 lN))) Ent.refl
    refine zs rfl (ld 0 7 m2 e3 rfl) ?_
    exact at_use k19 (lc e0 (lc e1 (lc e2 (lc e4 (lc e5 (lc e6 (lc e7 lN))))))) Ent.refl
   refine zt 0 rfl (mv m10) ?_
   refine zt 1 rfl (nc m0) ?_
   refine zt 2 rfl (fd 17 17 m0) ?_
   refine zt 4 rfl (mv m13) ?_
   refine zt 5 rfl (mv m14) ?_
   refine zt 6 rfl (nc m0) ?_
   refine zt 7 rfl (fd 0 0 m0) ?_
   refine zt 9 rfl (mv m18) ?_
   refine zt 10 rfl (nc m0) ?_
   refine zt 11 rfl (fd 7 (fo + 7) m0) ?_
   refine zt 17 rfl (mv (mU m0)) ?_
   refine zt 18 rfl (nc m0) ?_
   refine zt 19 rfl (fd 0 0 m0) ?_
   refine zt 20 rfl (fd 7 7 m0) ?_
   refine at_each (H := [3, 8, 12, 21]) (by kernel_rfl) rfl (each_cons ?_ (each_cons ?_ (each_cons ?_ (each_cons ?_ each_nil))))
   ·refine zs rfl (ld 17 0 m11 e5 rfl) ?_
    refine x3 8 12 21 ?_ ?_ ?_
    ·refine zs rfl (lda 0 m8 e3) ?_
     refine x2 12 21 ?_ ?_
     ·refine zs rfl (ld fo 7 m6 e0 rfl) ?_
      exact at_use k16 (lc e0 (lc e1 (lc e2 (lc e3 (lc e13 (lc (eU e6) (lc (eU e8) lN))))))) Ent.refl
     refine zs rfl (ld 0 7 m2 e3 rfl) ?_
     refine za 12 rfl (ld fo 7 m7 e0 rfl) ?_
     refine za 13 rfl (cq (.cons m2 (.cons m0 .nil)) (r6since_ok (o := r6since_s c f.b) rfl l _ _) pn) ?_
     exact at_use k12 (lc e2 (lc e0 (lc e4 (lc e15 (lc (eU e8) (lc (eU e10) lN)))))) Ent.refl
    ·refine zs rfl (ld fo 7 m5 e0 rfl) ?_
     refine x2 8 21 ?_ ?_
     ·refine zs rfl (lda 0 m9 e3) ?_
      exact at_use k16 (lc e1 (lc e0 (lc e2 (lc e3 (lc e13 (lc (eU e6) (lc (eU e8) lN))))))) Ent.refl
     refine zs rfl (ld 0 7 m2 e3 rfl) ?_
     refine za 8 rfl (lda 0 m10 e3) ?_
     refine za 13 rfl (cq (.cons m0 (.cons m2 .nil)) (r6since_ok (o := r6since_s c f.b) rfl l _ _) pn) ?_
     exact at_use k12 (lc e2 (lc e0 (lc e4 (lc e15 (lc (eU e8) (lc (eU e10) lN)))))) Ent.refl
    refine zs rfl (ld 0 7 m1 e3 rfl) ?_
    refine at_group [8, 12, 13] 4 rfl (by kernel_rfl) rfl ?_
    exact yq (lda 0 m9 e3) (yq (ld fo 7 m7 e0 rfl) (yq (cq (.cons m1 (.cons m0 .nil)) (r6since_ok (o := r6since_s c f.b) rfl l _ _) pn) (qN (at_use k12 (lc e3 (lc e0 (lc e4 (lc e15 (lc (eU e8) (lc (eU e10) lN)))))) Ent.refl))))
   ·refine zs rfl (lda 0 m7 e3) ?_
    refine x3 3 12 21 ?_ ?_ ?_
    ·refine zs rfl (ld 17 0 m12 e5 rfl) ?_
     refine x2 12 21 ?_ ?_
     ·refine zs rfl (ld fo 7 m6 e0 rfl) ?_
      exact at_use k16 (lc e0 (lc e2 (lc e1 (lc e3 (lc e13 (lc (eU e6) (lc (eU e8) lN))))))) Ent.refl
     refine zs rfl (ld 0 7 m2 e3 rfl) ?_
     refine za 12 rfl (ld fo 7 m7 e0 rfl) ?_
     refine za 13 rfl (cq (.cons m3 (.cons m0 .nil)) (r6since_ok (o := r6since_s c f.b) rfl l _ _) pn) ?_
     exact at_use k12 (lc e2 (lc e0 (lc e3 (lc e15 (lc (eU e8) (lc (eU e10) lN)))))) Ent.refl
    ·refine zs rfl (ld fo 7 m5 e0 rfl) ?_
     exact at_use k23 (lc e0 (lc e1 (lc e2 (lc e12 (lc e13 (lc (eU e5) (lc (eU e7) lN))))))) Ent.refl
    refine zs rfl (ld 0 7 m1 e3 rfl) ?_
    refine x2 3 12 ?_ ?_
    ·refine zs rfl (ld 17 0 m13 e5 rfl) ?_
     refine za 12 rfl (ld fo 7 m7 e0 rfl) ?_
     refine za 13 rfl (cq (.cons m3 (.cons m0 .nil)) (r6since_ok (o := r6since_s c f.b) rfl l _ _) pn) ?_
     exact at_use k12 (lc e3 (lc e0 (lc e2 (lc e15 (lc (eU e8) (lc (eU e10) lN)))))) Ent.refl
    refine zs rfl (ld fo 7 m6 e0 rfl) ?_
    exact at_use k19 (lc e1 (lc e0 (lc e2 (lc e13 (lc e14 (lc (eU e6) (lc (eU e8) lN))))))) Ent.refl
   ·refine zs rfl (ld fo 7 m4 e0 rfl) ?_
    refine x3 3 8 21 ?_ ?_ ?_
    ·refine zs rfl (ld 17 0 m12 e5 rfl) ?_
     refine x2 8 21 ?_ ?_
     ·refine zs rfl (lda 0 m9 e3) ?_
      exact at_use k16 (lc e2 (lc e0 (lc e1 (lc e3 (lc e13 (lc (eU e6) (lc (eU e8) lN))))))) Ent.refl
     refine zs rfl (ld 0 7 m2 e3 rfl) ?_
     refine za 8 rfl (lda 0 m10 e3) ?_
     refine za 13 rfl (cq (.cons m0 (.cons m3 .nil)) (r6since_ok (o := r6since_s c f.b) rfl l _ _) pn) ?_
     exact at_use k12 (lc e2 (lc e0 (lc e3 (lc e15 (lc (eU e8) (lc (eU e10) lN)))))) Ent.refl
    ·refine zs rfl (lda 0 m8 e3) ?_
     exact at_use k23 (lc e1 (lc e0 (lc e2 (lc e12 (lc e13 (lc (eU e5) (lc (eU e7) lN))))))) Ent.refl
    refine zs rfl (ld 0 7 m1 e3 rfl) ?_
    refine x2 3 8 ?_ ?_
    ·refine zs rfl (ld 17 0 m13 e5 rfl) ?_
     refine za 8 rfl (lda 0 m10 e3) ?_
     refine za 13 rfl (cq (.cons m0 (.cons m3 .nil)) (r6since_ok (o := r6since_s c f.b) rfl l _ _) pn) ?_
     exact at_use k12 (lc e3 (lc e0 (lc e2 (lc e15 (lc (eU e8) (lc (eU e10) lN)))))) Ent.refl
    refine zs rfl (lda 0 m9 e3) ?_
    exact at_use k19 (lc e1 (lc e2 (lc e0 (lc e13 (lc e14 (lc (eU e6) (lc (eU e8) lN))))))) Ent.refl
   refine zs rfl (ld 0 7 m0 e3 rfl) ?_
   refine x3 3 8 12 ?_ ?_ ?_
   ·refine zs rfl (ld 17 0 m12 e5 rfl) ?_
    refine at_group [8, 12, 13] 4 rfl (by kernel_rfl) rfl ?_
    exact yq (lda 0 m9 e3) (yq (ld fo 7 m7 e0 rfl) (yq (cq (.cons m1 (.cons m0 .nil)) (r6since_ok (o := r6since_s c f.b) rfl l _ _) pn) (qN (at_use k12 (lc e4 (lc e0 (lc e3 (lc e15 (lc (eU e8) (lc (eU e10) lN)))))) Ent.refl))))
   ·refine zs rfl (lda 0 m8 e3) ?_
    refine x2 3 12 ?_ ?_
    ·refine zs rfl (ld 17 0 m13 e5 rfl) ?_
     refine za 12 rfl (ld fo 7 m7 e0 rfl) ?_
     refine za 13 rfl (cq (.cons m2 (.cons m0 .nil)) (r6since_ok (o := r6since_s c f.b) rfl l _ _) pn) ?_
     exact at_use k12 (lc e4 (lc e0 (lc e2 (lc e15 (lc (eU e8) (lc (eU e10) lN)))))) Ent.refl
    refine zs rfl (ld fo 7 m6 e0 rfl) ?_
    exact at_use k19 (lc e2 (lc e0 (lc e1 (lc e13 (lc e14 (lc (eU e6) (lc (eU e8) lN))))))) Ent.refl
   refine zs rfl (ld fo 7 m5 e0 rfl) ?_
   refine x2 3 8 ?_ ?_
   ·refine zs rfl (ld 17 0 m13 e5 rfl) ?_
    refine za 8 rfl (lda 0 m10 e3) ?_
    refine za 13 rfl (cq (.cons m0 (.cons m2 .nil)) (r6since_ok (o := r6since_s c f.b) rfl l _ _) pn) ?_
    exact at_use k12 (lc e4 (lc e0 (lc e2 (lc e15 (lc (eU e8) (lc (eU e10) lN)))))) Ent.refl
   refine zs rfl (lda 0 m9 e3) ?_
   exact at_use k19 (lc e2 (lc e1 (lc e0 (lc e13 (lc e14 (lc (eU e6) (lc (eU e8) lN))))))) Ent.refl
  refine ci hs m0 (fun h26 hs => ?_) (fun h26 hs => ?_)
  ·refine q2 (zq (cq (.cons .const (.cons .const .nil)) (r8end_ok (o := r8end_s 0 0) rfl  _ _) pn) (rz (sta 0 m2 m0 t3) (q4 (bR (tR (pkE (p2 pn) (tE ro_dup (pkE (p3 pn) (sf f ?_)))))))))
   obtain rfl := sI hs
   exact fa e2 e3 (d2 (eP (p1 (p2 (p2 (p1 (p1 (p1 (p1 pn)))))))))
  refine cK (tB (tT (q2 (zp (mv m2) (zp (nc m0) (zp (fd 1 (fo + 1) m0) (zq (ld fo 1 m0 e1 rfl) (zp (aI m0 .const) (zp (nc m4) (zp (fd 1 (fo + 1) m0) (rz (st1 fo w1 m0 m2 t1) (q3 (zp bz (rz (sta 0 m9 m0 t3) (q4 (pkE (p2 pn) (tE ro_dup (pkE (p3 pn) (sf ({ f with line := (wi (f.line + 1)) } : FrV) ?_)))))))))))))))))))
  obtain rfl := sI hs
  exact fa e9 e3 (d2 (eP (p1 (p2 (p2 (p1 (p1 (p1 (p1 pn)))))))))
 refine q2 (zp (eqL m4 .const) (zp (asg m0) (q1 (ci hs m0 (fun h27 hs => ?_) (fun h27 hs => ?_)))))
 ·refine cS (ca 15 ?_)
  refine zt 0 rfl (mv m13) ?_
  refine zt 1 rfl (mv m13) ?_
  refine zt 2 rfl (mv m14) ?_
  refine zt 3 rfl (nc m0) ?_
  refine zt 4 rfl (fd 0 0 m0) ?_
  refine zt 6 rfl (mv m18) ?_
  refine zt 7 rfl (nc m0) ?_
  refine zt 8 rfl (fd 7 (fo + 7) m0) ?_
  refine at_group [5, 9, 10] 4 rfl (by kernel_rfl) rfl ?_
  refine yq (lda 0 m3 e3) (yq (ld fo 7 m1 e0 rfl) (yq (cq (.cons m1 (.cons m0 .nil)) (r6level_ok (o := r6level_s c f.b) rfl l _ _) pn) (qN ?_)))
  obtain ⟨r28, hr28, hs⟩ := bF hs
  refine tu 11 rfl (co (.cons m9 (.cons m0 .nil)) (eload_ok hr28 eb _ _) (p4 pn)) ?_
  refine zt 12 rfl (nc m11) ?_
  refine zt 13 rfl (fd 13 (fo + 13) m0) ?_
  refine tz 14 rfl (st1 fo w13 m0 m2 t1) ?_
  refine zz ?_
  refine tT (q2 (zp (mv (mU m7)) (zp (mv (mU m8)) (zp (nc m0) (zp (fd 13 (fo + 13) m0) (zq (ld fo 13 m0 e1 rfl) (zp (op_convI m0 Tryz.underlying50 Tryz.underlying3) (zp (aI m0 .const) (zp (nc m6) (zp (fd 12 (fo + 12) m0) (rz (st1 fo w12 m0 m2 t1) (q1 (cS (ct_draw (by kernel_rfl) (by kernel_rfl) ?_))))))))))))))
  refine yp (mv (mU m16)) (yp (nc m0) (yp (fd 13 (fo + 13) m0) (yq (ld fo 13 m0 e1 rfl) (yp (op_convI m0 Tryz.underlying50 Tryz.underlying3) (yp (mv (mU (mU m0))) (yp (nc m0) (yp (fd 0 0 m0) (yp (fd 1 1 m0) (yq (ld 0 1 m0 e4 rfl) (yp (op_subI m0 .const) (yp (op_geq m6 m0) (qN (tT (ci hs m0 (fun h29 hs => ?_) (fun h29 hs => ?_)))))))))))))))
  ·refine q2 (zq (cq (.cons .const (.cons .const .nil)) (r8end_ok (o := r8end_s 0 0) rfl  _ _) pn) (rz (sta 0 (mU (mU m7)) m0 t3) (q4 (bR (tR (pkE (p2 pn) (tE ro_dup (pkE (p3 pn) (sf ({ f with t := (wi ((wi r28.1) + 1)), u := r28.1 } : FrV) ?_)))))))))
   obtain rfl := sI hs
   exact fa (eU (eU e7)) e3 (d2 (eP (p1 (p2 (p2 (p1 (p1 (p1 (p1 pn)))))))))
  refine cK (tB (tT (q2 (zp (mv (mU (mU m8))) (zp (nc m0) (zp (fd 1 (fo + 1) m0) (zq (ld fo 1 m0 e1 rfl) (zp (aI m0 .const) (zp (nc m4) (zp (fd 1 (fo + 1) m0) (rz (st1 fo w1 m0 m2 t1) (q3 (zp bz (rz (sta 0 (mU (mU m14)) m0 t3) (q4 (pkE (p2 pn) (tE ro_dup (pkE (p3 pn) (sf ({ f with line := (wi (f.line + 1)), t := (wi ((wi r28.1) + 1)), u := r28.1 } : FrV) ?_)))))))))))))))))))
  obtain rfl := sI hs
  exact fa (eU (eU e14)) e3 (d2 (eP (p1 (p2 (p2 (p1 (p1 (p1 (p1 pn)))))))))
 refine q2 (zp (eqL m6 .const) (zp (asg m0) (q1 (ci hs m0 (fun h30 hs => ?_) (fun h30 hs => ?_)))))
 ·refine cS (cS (ca 21 ?_))
  refine zt 0 rfl (mv m14) ?_
  refine zt 1 rfl (mv m15) ?_
  refine zt 2 rfl (nc m0) ?_
  refine zt 3 rfl (fd 0 0 m0) ?_
  refine zt 5 rfl (mv m19) ?_
  refine zt 6 rfl (nc m0) ?_
  refine zt 7 rfl (fd 7 (fo + 7) m0) ?_
  refine zt 10 rfl (mv (mU m2)) ?_
  refine zt 11 rfl (nc m0) ?_
  refine zt 12 rfl (fd 13 (fo + 13) m0) ?_
  refine zt 14 rfl (mv (mU m5)) ?_
  refine zt 15 rfl (nc m0) ?_
  refine zt 16 rfl (fd 13 (fo + 13) m0) ?_
  refine at_group [4, 8, 9, 13, 17, 18] 2 rfl (by kernel_rfl) rfl ?_
  refine yq (lda 0 m9 e3) (yq (ld fo 7 m7 e0 rfl) (yq (cq (.cons m1 (.cons m0 .nil)) (r6level_ok (o := r6level_s c f.b) rfl l _ _) pn) (yq (ld fo 13 m6 e0 rfl) (yq (ld fo 13 m4 e0 rfl) (yp (op_addU m0 .const) (qN ?_))))))
  obtain ⟨r31, hr31, hs⟩ := bF hs
  refine tu 19 rfl (co (.cons m18 (.cons m3 (.cons m2 (.cons m0 .nil)))) (ecas_ok hr31 eb _ _) (p4 pn)) ?_
  refine zt 20 rfl (op_notb m0) ?_
  refine zz ?_
  refine tT (cj hs m0 (fun h32 hs => ?_) (fun h32 hs => ?_))
  ·refine q2 (zq (cq (.cons .const (.cons .const .nil)) (r8end_ok (o := r8end_s 4 0) rfl  _ _) pn) (rz (sta 0 (mU m15) m0 t3) (q4 (tR (bR (tR (pkE (p2 pn) (tE ro_dup (pkE (p3 pn) (sf f ?_))))))))))
   obtain rfl := sI hs
   exact fa (eU e15) e3 (d2 (eP (p1 (p2 (p2 (p1 (p1 (p1 (p1 pn)))))))))
  refine cK (tT (ca 14 ?_))
  refine zt 0 rfl (mv (mU m15)) ?_
  refine zt 1 rfl (mv (mU m17)) ?_
  refine zt 2 rfl (nc m0) ?_
  refine zt 3 rfl (fd 6 (fo + 6) m0) ?_
  refine zt 5 rfl (mv (mU (mU m0))) ?_
  refine zt 6 rfl (nc m0) ?_
  refine zt 7 rfl (fd 7 (fo + 7) m0) ?_
  refine zt 9 rfl (mv (mU (mU m3))) ?_
  refine zt 10 rfl (nc m0) ?_
  refine zt 11 rfl (fd 12 (fo + 12) m0) ?_
  refine at_group [4, 8, 12] 1 rfl (by kernel_rfl) rfl ?_
  refine yq (ld fo 6 m6 e1 rfl) (yq (ld fo 7 m4 e1 rfl) (yq (ld fo 12 m2 e1 rfl) (qN ?_)))
  obtain ⟨r33, hr33, hs⟩ := bO_of hs
  refine tu 13 rfl (co (.cons m12 (.cons .const (.cons m2 (.cons m1 (.cons .const (.cons m0 .nil)))))) (eemit_ok hr33 eb _ _) (p7 pn)) ?_
  refine zz ?_
  refine tB (tT (q2 (zp (mv (mU (mU m10))) (zp (nc m0) (zp (fd 1 (fo + 1) m0) (zq (ld fo 1 m0 e2 rfl) (zp (aI m0 .const) (zp (nc m4) (zp (fd 1 (fo + 1) m0) (rz (st1 fo w1 m0 m2 t2) (q3 (zp bz (rz (sta 0 (mU (mU m16)) m0 t4) (q4 (pkE (p3 pn) (tE ro_dup (pkE (p4 pn) (sf ({ f with line := (wi (f.line + 1)) } : FrV) ?_))))))))))))))))))
  obtain rfl := sI hs
  exact fa (eU (eU e16)) e4 (d2 (eP (p1 (p3 (p3 (p2 (p2 (p2 (p1 pn)))))))))
 refine ca 16 ?_
 refine zt 0 rfl (mv m14) ?_
 refine zt 1 rfl (mv m15) ?_
 refine zt 2 rfl (nc m0) ?_
 refine zt 3 rfl (fd 0 0 m0) ?_
 refine zt 5 rfl (mv m19) ?_
 refine zt 6 rfl (nc m0) ?_
 refine zt 7 rfl (fd 7 (fo + 7) m0) ?_
 refine zt 10 rfl (mv (mU m1)) ?_
 refine zt 11 rfl (nc m0) ?_
 refine zt 12 rfl (fd 17 17 m0) ?_
 refine at_group [4, 8, 9, 13, 14] 1 rfl (by kernel_rfl) rfl ?_
 refine yq (lda 0 m6 e3) (yq (ld fo 7 m4 e0 rfl) (yq (cq (.cons m1 (.cons m0 .nil)) (r6since_ok (o := r6since_s c f.b) rfl l _ _) pn) (yq (ld 17 0 m3 e5 rfl) (yp (op_convU m0 Tryz.underlying3 Tryz.underlying50) (qN ?_)))))
 obtain ⟨r34, hr34, hs⟩ := bF hs
 refine tu 15 rfl (co (.cons m14 (.cons m2 (.cons m0 .nil))) (estore_ok hr34 eb _ _) (p4 pn)) ?_
 refine zz ?_
 refine tB (tT (q2 (zp (mv (mU m11)) (zp (nc m0) (zp (fd 1 (fo + 1) m0) (zq (ld fo 1 m0 e1 rfl) (zp (aI m0 .const) (zp (nc m4) (zp (fd 1 (fo + 1) m0) (rz (st1 fo w1 m0 m2 t1) (q3 (zp bz (rz (sta 0 (mU m17) m0 t3) (q4 (pkE (p2 pn) (tE ro_dup (pkE (p3 pn) (sf ({ f with line := (wi (f.line + 1)) } : FrV) ?_))))))))))))))))))
 obtain rfl := sI hs
 exact fa (eU e17) e3 (d2 (eP (p1 (p2 (p2 (p1 (p1 (p1 (p1 pn)))))))))
def r8sleep_s (c : Cfg) (m : MemV) (now : Int) (evs : List Ev) (f : FrV) : Option (ResV × MemV × (List Ev) × FrV) :=
 (r2draw_s f.a c.classes).bind fun r3 =>
 if f.line = 1 then
  bT (eload_s m (r6epoch_s c f.a)) fun r5 =>
  some ((⟨false, 0, 0⟩ : ResV), r5.2, evs, ({ f with line := (wi (f.line + 1)), u := r5.1 } : FrV))
 else
 if f.line = 2 then
  (r1mask_s f.a).bind fun r7 =>
  bT (eor_s m (r6sleepers_s c r3) r7) fun r8 =>
  some ((⟨false, 0, 0⟩ : ResV), r8.2, evs, ({ f with line := (wi (f.line + 1)) } : FrV))
 else
 if f.line = 3 then
  bT (eload_s m 2) fun r10 =>
  if r10.1 ≠ 0 then
   some ((⟨false, 0, 0⟩ : ResV), r10.2, evs, ({ f with line := 7, n := 0 } : FrV))
  else
  some ((⟨false, 0, 0⟩ : ResV), r10.2, evs, ({ f with line := (wi (f.line + 1)), n := 0 } : FrV))
 else
 if f.line = 4 then
  bT (eload_s m (r6bitmap_s c f.n)) fun r13 =>
  if r13.1 ≠ 0 then
   some ((⟨false, 0, 0⟩ : ResV), r13.2, evs, ({ f with line := 7, n := (wi (f.n + 1)) } : FrV))
  else
  if (wi (f.n + 1)) < c.workers then
   some ((⟨false, 0, 0⟩ : ResV), r13.2, evs, ({ f with line := 4, n := (wi (f.n + 1)) } : FrV))
  else
  (eemit_s evs 16 f.a 0 0 0).bind fun r16 =>
  some ((⟨false, 0, 0⟩ : ResV), r13.2, r16, ({ f with line := (wi (f.line + 1)), n := (wi (f.n + 1)), t := now } : FrV))
 else
 if f.line = 5 then
  bT (eload_s m (r6epoch_s c f.a)) fun r18 =>
  if r18.1 ≠ f.u then
   (eemit_s evs 17 f.a 0 1 0).bind fun r20 =>
   some ((⟨false, 0, 0⟩ : ResV), r18.2, r20, ({ f with line := (wi (f.line + 1)) } : FrV))
  else
  if c.patience ≤ (wi (now - f.t)) then
   (eemit_s evs 17 f.a 0 2 0).bind fun r22 =>
   some ((⟨false, 0, 0⟩ : ResV), r18.2, r22, ({ f with line := (wi (f.line + 1)) } : FrV))
  else
  some ((⟨false, 0, 0⟩ : ResV), r18.2, evs, ({ f with line := 5 } : FrV))
 else
 (r1mask_s f.a).bind fun r23 =>
 bT (eand_s m (r6sleepers_s c r3) (cplU r23)) fun r24 =>
 if f.line = 6 then
  some ((r8end_s 1 0), r24.2, evs, f)
 else
 some ((r8end_s 5 0), r24.2, evs, f)
theorem r8sleep_ok {o : ResV × MemV × (List Ev) × FrV} (hs : r8sleep_s c m now evs f = some o) (eb : Nat) (l : CfgAt) (fb fo : Nat)  (B : Nat) (W : World)  : Fn_ Tryz.prog 134 #[vp eb 0, vp fb fo] B W [cP eb c l, memS eb 11 m, pts eb 17 [vi now], evsS eb 20 evs, frS fb fo f] (X := Unit) (fun x => .agg #[.bool (o.1.done), vi o.1.code, vi o.1.value]) (fun x => [cP eb c l, memS eb 11 o.2.1, pts eb 17 [vi now], evsS eb 20 o.2.2.1, frS fb fo o.2.2.2]) := by
 unfold r8sleep_s at hs
 refine fe2 Tryz.func134 183 rfl (fun F => ?_)
 refine q2 (rn (al [.bool false, zi, zi]) ?_)
 rintro b1
 refine q1 (cS (ct_open pick5 ?_))
 rintro ⟨A2, c2⟩
 refine ct_draw (by kernel_rfl) (by kernel_rfl) ?_
 refine yp (mv m1) (yp (nc m0) (yp (fd 0 0 m0) (yq (lda 0 m0 e3) (yp (mv m6) (yp (nc m0) (yp (fd 6 (fo + 6) m0) (yq (ld fo 6 m0 e0 rfl) (yp (mv m9) (yp (nc m0) (yp (fd 0 0 m0) (yp (fd 2 2 m0) (yq (ld 0 2 m0 e3 rfl) ?_))))))))))))
 obtain ⟨r3, hr3, hs⟩ := bO_of hs
 refine yq (cq (.cons m5 (.cons m0 .nil)) (r2draw_ok hr3  _ _) pn) (yq (cq (.cons m10 (.cons m0 .nil)) (r6sleepers_ok (o := r6sleepers_s c r3) rfl l _ _) pn) (yp (asg m0) (qN (tT (q2 (zp (mv m18) (zp (nc m0) (zp (fd 1 (fo + 1) m0) (zq (ld fo 1 m0 e0 rfl) (zp (aI m0 .const) (zp (asg m0) (q1 (cS (q2 (zp (mv (mU m4)) (zp (nc m0) (zp (fd 1 (fo + 1) m0) (zq (ld fo 1 m0 e0 rfl) (q1 (cB (q2 (zp (eqL m0 .const) (zp (asg m0) (q1 (ci hs m0 (fun h4 hs => ?_) (fun h4 hs => ?_))))))))))))))))))))))))))
 ·refine ca 15 ?_
  refine zt 0 rfl (mv (mU m10)) ?_
  refine zt 1 rfl (mv (mU m10)) ?_
  refine zt 2 rfl (mv (mU m11)) ?_
  refine zt 3 rfl (nc m0) ?_
  refine zt 4 rfl (fd 0 0 m0) ?_
  refine zt 6 rfl (mv (mU m15)) ?_
  refine zt 7 rfl (nc m0) ?_
  refine zt 8 rfl (fd 6 (fo + 6) m0) ?_
  refine at_group [5, 9, 10] 4 rfl (by kernel_rfl) rfl ?_
  refine yq (lda 0 m3 e3) (yq (ld fo 6 m1 e0 rfl) (yq (cq (.cons m1 (.cons m0 .nil)) (r6epoch_ok (o := r6epoch_s c f.a) rfl l _ _) pn) (qN ?_)))
  obtain ⟨r5, hr5, hs⟩ := bF hs
  refine tu 11 rfl (co (.cons m9 (.cons m0 .nil)) (eload_ok hr5 eb _ _) (p4 pn)) ?_
  refine zt 12 rfl (nc m11) ?_
  refine zt 13 rfl (fd 13 (fo + 13) m0) ?_
  refine tz 14 rfl (st1 fo w13 m0 m2 t1) ?_
  refine zz ?_
  refine tB (tT (q2 (zp (mv (mU (mU m4))) (zp (mv (mU m1)) (zp (nc m1) (zp (fd 1 (fo + 1) m0) (rz (st1 fo w1 m0 m2 t1) (q3 (zp bz (rz (sta 0 (mU (mU m7)) m0 t3) (q4 (pkE (p2 pn) (tE ro_dup (pkE (p3 pn) (sf ({ f with line := (wi (f.line + 1)), u := r5.1 } : FrV) ?_)))))))))))))))
  obtain rfl := sI hs
  exact fa (eU (eU e7)) e3 (d2 (eP (p1 (p2 (p2 (p1 (p1 (p1 pn))))))))
 refine q2 (zp (eqL m2 .const) (zp (asg m0) (q1 (ci hs m0 (fun h6 hs => ?_) (fun h6 hs => ?_)))))
 ·refine cR (zp (mv (mU m11)) (zp (mv m15) (zp (mv (mU m14)) (zp (nc m0) (zp (fd 6 (fo + 6) m0) (zq (ld fo 6 m0 e0 rfl) ?_))))))
  obtain ⟨r7, hr7, hs⟩ := bO_of hs
  refine zq (cq (.cons m0 .nil) (r1mask_ok hr7  _ _) pn) ?_
  obtain ⟨r8, hr8, hs⟩ := bF hs
  refine ru (co (.cons m6 (.cons m5 (.cons m0 .nil))) (eor_ok hr8 eb _ _) (p4 pn)) (rN (tB (tT (q2 (zp (mv (mU (mU m0))) (zp (mv m17) (zp (nc m1) (zp (fd 1 (fo + 1) m0) (rz (st1 fo w1 m0 m2 t1) (q3 (zp bz (rz (sta 0 (mU (mU m3)) m0 t3) (q4 (pkE (p2 pn) (tE ro_dup (pkE (p3 pn) (sf ({ f with line := (wi (f.line + 1)) } : FrV) ?_)))))))))))))))))
  obtain rfl := sI hs
  exact fa (eU (eU e3)) e3 (d2 (eP (p1 (p2 (p2 (p1 (p1 (p1 pn))))))))
 refine q2 (zp (eqL m4 .const) (zp (asg m0) (q1 (ci hs m0 (fun h9 hs => ?_) (fun h9 hs => ?_)))))
 ·refine q2 (zp (mv (mU m14)) (zp (nc m0) (zp (fd 11 (fo + 11) m0) (rz (st1 fo w11 m0 .const t0) (q3 (zp (mv (mU m16)) ?_))))))
  obtain ⟨r10, hr10, hs⟩ := bF hs
  refine ru (co (.cons m0 (.cons .const .nil)) (eload_ok hr10 eb _ _) (p4 pn)) (zp (op_neq m0 .const) (q1 (ci hs m0 (fun h11 hs => ?_) (fun h11 hs => ?_))))
  ·refine cR (zo (asg .const) pick16 (rN (tB (tT (q2 (zp (mv (mU (mU m0))) (zp (mv m1) (zp (nc m1) (zp (fd 1 (fo + 1) m0) (rz (st1 fo w1 m0 m2 t1) (q3 (zp bz (rz (sta 0 (mU (mU m3)) m0 t3) (q4 (pkE (p2 pn) (tE ro_dup (pkE (p3 pn) (sf ({ f with line := 7, n := 0 } : FrV) ?_))))))))))))))))))
   obtain rfl := sI hs
   exact fa (eU (eU e3)) e3 (d2 (eP (p1 (p2 (p2 (p1 (p1 (p1 pn))))))))
  refine cK (tB (tT (q2 (zp (mv (mU (mU m0))) (zp (mv m17) (zp (nc m1) (zp (fd 1 (fo + 1) m0) (rz (st1 fo w1 m0 m2 t1) (q3 (zp bz (rz (sta 0 (mU (mU m3)) m0 t3) (q4 (pkE (p2 pn) (tE ro_dup (pkE (p3 pn) (sf ({ f with line := (wi (f.line + 1)), n := 0 } : FrV) ?_))))))))))))))))
  obtain rfl := sI hs
  exact fa (eU (eU e3)) e3 (d2 (eP (p1 (p2 (p2 (p1 (p1 (p1 pn))))))))
 refine q2 (zp (eqL m6 .const) (zp (asg m0) (q1 (ci hs m0 (fun h12 hs => ?_) (fun h12 hs => ?_)))))
 ·refine cS (ca 12 ?_)
  refine zt 0 rfl (mv (mU m15)) ?_
  refine zt 1 rfl (mv (mU m16)) ?_
  refine zt 2 rfl (nc m0) ?_
  refine zt 3 rfl (fd 0 0 m0) ?_
  refine zt 5 rfl (mv (mU (mU m0))) ?_
  refine zt 6 rfl (nc m0) ?_
  refine zt 7 rfl (fd 11 (fo + 11) m0) ?_
  refine at_group [4, 8, 9] 2 rfl (by kernel_rfl) rfl ?_
  refine yq (lda 0 m3 e3) (yq (ld fo 11 m1 e0 rfl) (yq (cq (.cons m1 (.cons m0 .nil)) (r6bitmap_ok (o := r6bitmap_s c f.n) rfl l _ _) pn) (qN ?_)))
  obtain ⟨r13, hr13, hs⟩ := bF hs
  refine tu 10 rfl (co (.cons m9 (.cons m0 .nil)) (eload_ok hr13 eb _ _) (p4 pn)) ?_
  refine zt 11 rfl (asg m0) ?_
  refine zz ?_
  refine tT (q2 (zp (mv (mU (mU m8))) (zp (nc m0) (zp (fd 11 (fo + 11) m0) (zq (ld fo 11 m0 e1 rfl) (zp (aI m0 .const) (zp (nc m4) (zp (fd 11 (fo + 11) m0) (rz (st1 fo w11 m0 m2 t1) (q1 (cB (q2 (zp (mv m7) (zp (op_neq m0 .const) (zp (asg m0) (q1 (ci hs m0 (fun h14 hs => ?_) (fun h14 hs => ?_))))))))))))))))))
  ·refine cR (zo (asg .const) (pickU pick14) (rN (tB (tB (tT (q2 (zp (mv (mU (mU m18))) (zp (mv m1) (zp (nc m1) (zp (fd 1 (fo + 1) m0) (rz (st1 fo w1 m0 m2 t1) (q3 (zp bz (rz (sta 0 (mU (mU (mU m1))) m0 t3) (q4 (pkE (p2 pn) (tE ro_dup (pkE (p3 pn) (sf ({ f with line := 7, n := (wi (f.n + 1)) } : FrV) ?_)))))))))))))))))))
   obtain rfl := sI hs
   exact fa (eU (eU (eU e1))) e3 (d2 (eP (p1 (p2 (p2 (p1 (p1 (p1 pn))))))))
  refine cS (ct_draw (by kernel_rfl) (by kernel_rfl) ?_)
  refine yp (mv (mU (mU m18))) (yp (nc m0) (yp (fd 11 (fo + 11) m0) (yq (ld fo 11 m0 e1 rfl) (yp (mv (mU (mU (mU m1)))) (yp (nc m0) (yp (fd 0 0 m0) (yp (fd 0 0 m0) (yq (ld 0 0 m0 e4 rfl) (yp (op_lss m5 m0) (yp (asg m0) (qN (tT (ci hs m0 (fun h15 hs => ?_) (fun h15 hs => ?_))))))))))))))
  ·refine cR (zo (asg .const) (pickU (pickU pick5)) (rN (tB (tB (tT (q2 (zp (mv (mU (mU (mU m9)))) (zp (mv m1) (zp (nc m1) (zp (fd 1 (fo + 1) m0) (rz (st1 fo w1 m0 m2 t1) (q3 (zp bz (rz (sta 0 (mU (mU (mU m12))) m0 t3) (q4 (pkE (p2 pn) (tE ro_dup (pkE (p3 pn) (sf ({ f with line := 4, n := (wi (f.n + 1)) } : FrV) ?_)))))))))))))))))))
   obtain rfl := sI hs
   exact fa (eU (eU (eU e12))) e3 (d2 (eP (p1 (p2 (p2 (p1 (p1 (p1 pn))))))))
  refine q2 (zp (mv (mU (mU (mU m8)))) (zp (mv (mU (mU (mU m10)))) (zp (nc m0) (zp (fd 6 (fo + 6) m0) (zq (ld fo 6 m0 e1 rfl) ?_)))))
  obtain ⟨r16, hr16, hs⟩ := bO_of hs
  refine ru (co (.cons m4 (.cons .const (.cons m0 (.cons .const (.cons .const (.cons .const .nil)))))) (eemit_ok hr16 eb _ _) (p6 pn)) (q1 (cR (zp (mv (mU (mU (mU m15)))) (zp (mv (mU (mU (mU m15)))) (zp (nc m0) (zp (fd 17 17 m0) (zq (ld 17 0 m0 e6 rfl) (zp (nc m4) (zp (fd 12 (fo + 12) m0) (rz (st1 fo w12 m0 m2 t2) (rN (tB (tB (tT (q2 (zp (mv (mU (mU (mU (mU m2))))) (zp (mv (mU (mU m19))) (zp (nc m1) (zp (fd 1 (fo + 1) m0) (rz (st1 fo w1 m0 m2 t2) (q3 (zp bz (rz (sta 0 (mU (mU (mU (mU m5)))) m0 t4) (q4 (pkE (p3 pn) (tE ro_dup (pkE (p4 pn) (sf ({ f with line := (wi (f.line + 1)), n := (wi (f.n + 1)), t := now } : FrV) ?_))))))))))))))))))))))))))))
  obtain rfl := sI hs
  exact fa (eU (eU (eU (eU e5)))) e4 (d2 (eP (p1 (p3 (p3 (p2 (p2 (p1 pn))))))))
 refine q2 (zp (eqL m8 .const) (zp (asg m0) (q1 (ci hs m0 (fun h17 hs => ?_) (fun h17 hs => ?_)))))
 ·refine cS (ca 12 ?_)
  refine zt 0 rfl (mv (mU m17)) ?_
  refine zt 1 rfl (mv (mU m18)) ?_
  refine zt 2 rfl (nc m0) ?_
  refine zt 3 rfl (fd 0 0 m0) ?_
  refine zt 5 rfl (mv (mU (mU m2))) ?_
  refine zt 6 rfl (nc m0) ?_
  refine zt 7 rfl (fd 6 (fo + 6) m0) ?_
  refine at_group [4, 8, 9] 2 rfl (by kernel_rfl) rfl ?_
  refine yq (lda 0 m3 e3) (yq (ld fo 6 m1 e0 rfl) (yq (cq (.cons m1 (.cons m0 .nil)) (r6epoch_ok (o := r6epoch_s c f.a) rfl l _ _) pn) (qN ?_)))
  obtain ⟨r18, hr18, hs⟩ := bF hs
  refine tu 10 rfl (co (.cons m9 (.cons m0 .nil)) (eload_ok hr18 eb _ _) (p4 pn)) ?_
  refine zt 11 rfl (asg m0) ?_
  refine zz ?_
  refine tT (cB (q2 (zp (mv m0) (zp (mv (mU (mU m11))) (zp (nc m0) (zp (fd 13 (fo + 13) m0) (zq (ld fo 13 m0 e1 rfl) (zp (op_neq m4 m0) (zp (asg m0) (q1 (ci hs m0 (fun h19 hs => ?_) (fun h19 hs => ?_))))))))))))
  ·refine cR (zp (mv (mU (mU m16))) (zp (mv (mU (mU m18))) (zp (nc m0) (zp (fd 6 (fo + 6) m0) (zq (ld fo 6 m0 e1 rfl) ?_)))))
   obtain ⟨r20, hr20, hs⟩ := bO_of hs
   refine ru (co (.cons m4 (.cons .const (.cons m0 (.cons .const (.cons .const (.cons .const .nil)))))) (eemit_ok hr20 eb _ _) (p6 pn)) (rN (tB (tB (tT (q2 (zp (mv (mU (mU (mU m3)))) (zp (mv (mU (mU m0))) (zp (nc m1) (zp (fd 1 (fo + 1) m0) (rz (st1 fo w1 m0 m2 t2) (q3 (zp bz (rz (sta 0 (mU (mU (mU m6))) m0 t4) (q4 (pkE (p3 pn) (tE ro_dup (pkE (p4 pn) (sf ({ f with line := (wi (f.line + 1)) } : FrV) ?_))))))))))))))))))
   obtain rfl := sI hs
   exact fa (eU (eU (eU e6))) e4 (d2 (eP (p1 (p3 (p3 (p2 (p2 (p1 pn))))))))
  refine cS (ct_draw (by kernel_rfl) (by kernel_rfl) ?_)
  refine yp (mv (mU (mU m16))) (yp (nc m0) (yp (fd 17 17 m0) (yq (ld 17 0 m0 e5 rfl) (yp (mv (mU (mU (mU m1)))) (yp (nc m0) (yp (fd 12 (fo + 12) m0) (yq (ld fo 12 m0 e1 rfl) (yp (op_subI m4 m0) (yp (mv (mU (mU (mU m5)))) (yp (nc m0) (yp (fd 0 0 m0) (yp (fd 8 8 m0) (yq (ld 0 8 m0 e4 rfl) (yp (op_geq m5 m0) (yp (asg m0) (qN (tT (ci hs m0 (fun h21 hs => ?_) (fun h21 hs => ?_)))))))))))))))))))
  ·refine cR (zp (mv (mU (mU (mU m12)))) (zp (mv (mU (mU (mU m14)))) (zp (nc m0) (zp (fd 6 (fo + 6) m0) (zq (ld fo 6 m0 e1 rfl) ?_)))))
   obtain ⟨r22, hr22, hs⟩ := bO_of hs
   refine ru (co (.cons m4 (.cons .const (.cons m0 (.cons .const (.cons .const (.cons .const .nil)))))) (eemit_ok hr22 eb _ _) (p6 pn)) (rN (tB (tB (tT (q2 (zp (mv (mU (mU (mU m19)))) (zp (mv (mU (mU m16))) (zp (nc m1) (zp (fd 1 (fo + 1) m0) (rz (st1 fo w1 m0 m2 t2) (q3 (zp bz (rz (sta 0 (mU (mU (mU (mU m2)))) m0 t4) (q4 (pkE (p3 pn) (tE ro_dup (pkE (p4 pn) (sf ({ f with line := (wi (f.line + 1)) } : FrV) ?_))))))))))))))))))
   obtain rfl := sI hs
   exact fa (eU (eU (eU (eU e2)))) e4 (d2 (eP (p1 (p3 (p3 (p2 (p2 (p1 pn))))))))
  refine cR (zo (asg .const) (pickU (pickU pick9)) (rN (tB (tB (tT (q2 (zp (mv (mU (mU (mU m13)))) (zp (mv m1) (zp (nc m1) (zp (fd 1 (fo + 1) m0) (rz (st1 fo w1 m0 m2 t1) (q3 (zp bz (rz (sta 0 (mU (mU (mU m16))) m0 t3) (q4 (pkE (p2 pn) (tE ro_dup (pkE (p3 pn) (sf ({ f with line := 5 } : FrV) ?_)))))))))))))))))))
  obtain rfl := sI hs
  exact fa (eU (eU (eU e16))) e3 (d2 (eP (p1 (p2 (p2 (p1 (p1 (p1 pn))))))))
 refine q2 (zp (mv (mU m17)) (zp (mv (mU m1)) (zp (mv (mU (mU m0))) (zp (nc m0) (zp (fd 6 (fo + 6) m0) (zq (ld fo 6 m0 e0 rfl) ?_))))))
 obtain ⟨r23, hr23, hs⟩ := bO_of hs
 refine zq (cq (.cons m0 .nil) (r1mask_ok hr23  _ _) pn) (zp (op_cplW m0) ?_)
 obtain ⟨r24, hr24, hs⟩ := bF hs
 refine ru (co (.cons m7 (.cons m6 (.cons m0 .nil))) (eand_ok hr24 eb _ _) (p4 pn)) (q1 (cS (q2 (zp (mv (mU (mU m7))) (zp (nc m0) (zp (fd 1 (fo + 1) m0) (zq (ld fo 1 m0 e1 rfl) (zp (eqL m0 .const) (q1 (ci hs m0 (fun h25 hs => ?_) (fun h25 hs => ?_)))))))))))
 ·refine q2 (zq (cq (.cons .const (.cons .const .nil)) (r8end_ok (o := r8end_s 1 0) rfl  _ _) pn) (rz (sta 0 (mU (mU m11)) m0 t3) (q4 (tR (bR (tR (pkE (p2 pn) (tE ro_dup (pkE (p3 pn) (sf f ?_))))))))))
  obtain rfl := sI hs
  exact fa (eU (eU e11)) e3 (d2 (eP (p1 (p2 (p2 (p1 (p1 (p1 pn))))))))
 refine cK (tT (q2 (zq (cq (.cons .const (.cons .const .nil)) (r8end_ok (o := r8end_s 5 0) rfl  _ _) pn) (rz (sta 0 (mU (mU m11)) m0 t3) (q4 (bR (tR (pkE (p2 pn) (tE ro_dup (pkE (p3 pn) (sf f ?_)))))))))))
 obtain rfl := sI hs
 exact fa (eU (eU e11)) e3 (d2 (eP (p1 (p2 (p2 (p1 (p1 (p1 pn))))))))
def r8wake_s (c : Cfg) (m : MemV) (evs : List Ev) (f : FrV) : Option (ResV × MemV × (List Ev) × FrV) :=
 (r1class_s f.b c.levels c.classes).bind fun r3 =>
 (r2draw_s (wi (r3 + f.j)) c.classes).bind fun r4 =>
 if f.line = 1 then
  bT (eload_s m (r6sleepers_s c r4)) fun r6 =>
  if r6.1 ≠ 0 then
   (r1low_s r6.1).bind fun r8 =>
   some ((⟨false, 0, 0⟩ : ResV), r6.2, evs, ({ f with line := 2, n := r8 } : FrV))
  else
  if c.classes ≤ (wi (f.j + 1)) then
   some ((r8end_s 2 0), r6.2, evs, ({ f with j := (wi (f.j + 1)) } : FrV))
  else
  some ((⟨false, 0, 0⟩ : ResV), r6.2, evs, ({ f with j := (wi (f.j + 1)) } : FrV))
 else
 if f.line = 2 then
  (r1mask_s f.n).bind fun r11 =>
  bT (eand_s m (r6sleepers_s c r4) (cplU r11)) fun r12 =>
  (r1bit_s r12.1 f.n).bind fun r13 =>
  if (!r13) = true then
   some ((r8end_s 4 0), r12.2, evs, f)
  else
  some ((⟨false, 0, 0⟩ : ResV), r12.2, evs, ({ f with line := 3 } : FrV))
 else
 bT (eadd_s m (r6epoch_s c f.n) 1) fun r15 =>
 (eemit_s evs 18 f.a 0 f.n 0).bind fun r16 =>
 some ((r8end_s 1 f.n), r15.2, r16, f)
theorem r8wake_ok {o : ResV × MemV × (List Ev) × FrV} (hs : r8wake_s c m evs f = some o) (eb : Nat) (l : CfgAt) (fb fo : Nat)  (B : Nat) (W : World)  : Fn_ Tryz.prog 135 #[vp eb 0, vp fb fo] B W [cP eb c l, memS eb 11 m, evsS eb 20 evs, frS fb fo f] (X := Unit) (fun x => .agg #[.bool (o.1.done), vi o.1.code, vi o.1.value]) (fun x => [cP eb c l, memS eb 11 o.2.1, evsS eb 20 o.2.2.1, frS fb fo o.2.2.2]) := by
 unfold r8wake_s at hs
 refine fe2 Tryz.func135 132 rfl (fun F => ?_)
 refine q2 (rn (al [.bool false, zi, zi]) ?_)
 rintro b1
 refine q1 (cS (ct_open pick4 ?_))
 rintro ⟨A2, c2⟩
 refine ct_draw (by kernel_rfl) (by kernel_rfl) ?_
 refine yp (mv m2) (yp (nc m0) (yp (fd 7 (fo + 7) m0) (yq (ld fo 7 m0 e0 rfl) (yp (mv m5) (yp (nc m0) (yp (fd 0 0 m0) (yp (fd 1 1 m0) (yq (ld 0 1 m0 e3 rfl) (yp (mv m10) (yp (nc m0) (yp (fd 0 0 m0) (yp (fd 2 2 m0) (yq (ld 0 2 m0 e3 rfl) ?_)))))))))))))
 obtain ⟨r3, hr3, hs⟩ := bO_of hs
 refine yq (cq (.cons m10 (.cons m5 (.cons m0 .nil))) (r1class_ok hr3  _ _) pn) (yp (mv m17) (yp (nc m0) (yp (fd 10 (fo + 10) m0) (yq (ld fo 10 m0 e0 rfl) (yp (aI m4 m0) (yp (mv (mU m1)) (yp (nc m0) (yp (fd 0 0 m0) (yp (fd 2 2 m0) (yq (ld 0 2 m0 e3 rfl) ?_))))))))))
 obtain ⟨r4, hr4, hs⟩ := bO_of hs
 refine yq (cq (.cons m5 (.cons m0 .nil)) (r2draw_ok hr4  _ _) pn) (yp (asg m0) (qN (tT (cS (q2 (zp (mv (mU m9)) (zp (nc m0) (zp (fd 1 (fo + 1) m0) (zq (ld fo 1 m0 e0 rfl) (q1 (cB (q2 (zp (eqL m0 .const) (zp (asg m0) (q1 (ci hs m0 (fun h5 hs => ?_) (fun h5 hs => ?_)))))))))))))))))
 ·refine q2 (zp (mv (mU m14)) (zp (mv (mU m15)) (zp (nc m0) (zp (fd 0 0 m0) (zq (lda 0 m0 e3) (zp (mv m11) (zq (cq (.cons m1 (.cons m0 .nil)) (r6sleepers_ok (o := r6sleepers_s c r4) rfl l _ _) pn) ?_)))))))
  obtain ⟨r6, hr6, hs⟩ := bF hs
  refine ru (co (.cons m6 (.cons m0 .nil)) (eload_ok hr6 eb _ _) (p4 pn)) (zp (asg m0) (q1 (cS (q2 (zp (mv m0) (zp (op_neq m0 .const) (q1 (ci hs m0 (fun h7 hs => ?_) (fun h7 hs => ?_)))))))))
  ·refine q2 (zp (mv (mU (mU m6))) (zp (mv (mU (mU m7))) (zp (mv m4) ?_)))
   obtain ⟨r8, hr8, hs⟩ := bO_of hs
   refine zq (cq (.cons m0 .nil) (r1low_ok hr8  _ _) pn) (zp (nc m3) (zp (fd 11 (fo + 11) m0) (rz (st1 fo w11 m0 m2 t1) (zp (nc m4) (zp (fd 1 (fo + 1) m0) (rz (st1 fo w1 m0 .const t1) (q3 (zp bz (rz (sta 0 (mU (mU m13)) m0 t3) (q4 (tR (bR (tR (pkE (p2 pn) (tE ro_dup (pkE (p3 pn) (sf ({ f with line := 2, n := r8 } : FrV) ?_)))))))))))))))))
   obtain rfl := sI hs
   exact fa (eU (eU e13)) e3 (d2 (eP (p1 (p2 (p2 (p1 (p1 pn)))))))
  refine cK (tT (q2 (zp (mv (mU (mU m6))) (zp (nc m0) (zp (fd 10 (fo + 10) m0) (zq (ld fo 10 m0 e1 rfl) (zp (aI m0 .const) (zp (nc m4) (zp (fd 10 (fo + 10) m0) (rz (st1 fo w10 m0 m2 t1) (q1 (cS (cS (ct_draw (by kernel_rfl) (by kernel_rfl) ?_))))))))))))))
  refine yp (mv (mU (mU m13))) (yp (nc m0) (yp (fd 10 (fo + 10) m0) (yq (ld fo 10 m0 e1 rfl) (yp (mv (mU (mU m16))) (yp (nc m0) (yp (fd 0 0 m0) (yp (fd 2 2 m0) (yq (ld 0 2 m0 e4 rfl) (yp (op_geq m5 m0) (qN (tT (ci hs m0 (fun h9 hs => ?_) (fun h9 hs => ?_)))))))))))))
  ·refine q2 (zq (cq (.cons .const (.cons .const .nil)) (r8end_ok (o := r8end_s 2 0) rfl  _ _) pn) (rz (sta 0 (mU (mU (mU m2))) m0 t3) (q4 (tR (bR (tR (pkE (p2 pn) (tE ro_dup (pkE (p3 pn) (sf ({ f with j := (wi (f.j + 1)) } : FrV) ?_))))))))))
   obtain rfl := sI hs
   exact fa (eU (eU (eU e2))) e3 (d2 (eP (p1 (p2 (p2 (p1 (p1 pn)))))))
  refine cK (tT (q2 (zp bz (rz (sta 0 (mU (mU (mU m2))) m0 t3) (q4 (bR (tR (pkE (p2 pn) (tE ro_dup (pkE (p3 pn) (sf ({ f with j := (wi (f.j + 1)) } : FrV) ?_)))))))))))
  obtain rfl := sI hs
  exact fa (eU (eU (eU e2))) e3 (d2 (eP (p1 (p2 (p2 (p1 (p1 pn)))))))
 refine q2 (zp (eqL m2 .const) (zp (asg m0) (q1 (ci hs m0 (fun h10 hs => ?_) (fun h10 hs => ?_)))))
 ·refine cS (ca 15 ?_)
  refine zt 0 rfl (mv (mU m16)) ?_
  refine zt 1 rfl (mv (mU m17)) ?_
  refine zt 2 rfl (nc m0) ?_
  refine zt 3 rfl (fd 0 0 m0) ?_
  refine zt 5 rfl (mv m12) ?_
  refine zt 7 rfl (mv (mU (mU m2))) ?_
  refine zt 8 rfl (nc m0) ?_
  refine zt 9 rfl (fd 11 (fo + 11) m0) ?_
  refine at_group [4, 6, 10, 11, 12] 2 rfl (by kernel_rfl) rfl ?_
  refine yq (lda 0 m4 e3) (yq (cq (.cons m0 (.cons m4 .nil)) (r6sleepers_ok (o := r6sleepers_s c r4) rfl l _ _) pn) (yq (ld fo 11 m2 e0 rfl) ?_))
  obtain ⟨r11, hr11, hs⟩ := bO_of hs
  refine yq (cq (.cons m0 .nil) (r1mask_ok hr11  _ _) pn) (yp (op_cplW m0) (qN ?_))
  obtain ⟨r12, hr12, hs⟩ := bF hs
  refine tu 13 rfl (co (.cons m12 (.cons m3 (.cons m0 .nil))) (eand_ok hr12 eb _ _) (p4 pn)) ?_
  refine zt 14 rfl (asg m0) ?_
  refine zz ?_
  refine tT (cS (q2 (zp (mv m0) (zp (mv (mU (mU m13))) (zp (nc m0) (zp (fd 11 (fo + 11) m0) (zq (ld fo 11 m0 e1 rfl) ?_)))))))
  obtain ⟨r13, hr13, hs⟩ := bO_of hs
  refine zq (cq (.cons m4 (.cons m0 .nil)) (r1bit_ok hr13  _ _) pn) (zp (op_notb m0) (q1 (cj hs m0 (fun h14 hs => ?_) (fun h14 hs => ?_))))
  ·refine q2 (zq (cq (.cons .const (.cons .const .nil)) (r8end_ok (o := r8end_s 4 0) rfl  _ _) pn) (rz (sta 0 (mU (mU m18)) m0 t3) (q4 (tR (bR (tR (pkE (p2 pn) (tE ro_dup (pkE (p3 pn) (sf f ?_))))))))))
   obtain rfl := sI hs
   exact fa (eU (eU e18)) e3 (d2 (eP (p1 (p2 (p2 (p1 (p1 pn)))))))
  refine cK (tT (q2 (zp (mv (mU (mU m19))) (zp (nc m0) (zp (fd 1 (fo + 1) m0) (rz (st1 fo w1 m0 .const t1) (q3 (zp bz (rz (sta 0 (mU (mU (mU m1))) m0 t3) (q4 (bR (tR (pkE (p2 pn) (tE ro_dup (pkE (p3 pn) (sf ({ f with line := 3 } : FrV) ?_))))))))))))))))
  obtain rfl := sI hs
  exact fa (eU (eU (eU e1))) e3 (d2 (eP (p1 (p2 (p2 (p1 (p1 pn)))))))
 refine cK (tB (tT (cS (ca 11 ?_))))
 refine zt 0 rfl (mv (mU m16)) ?_
 refine zt 1 rfl (mv (mU m17)) ?_
 refine zt 2 rfl (nc m0) ?_
 refine zt 3 rfl (fd 0 0 m0) ?_
 refine zt 5 rfl (mv (mU (mU m1))) ?_
 refine zt 6 rfl (nc m0) ?_
 refine zt 7 rfl (fd 11 (fo + 11) m0) ?_
 refine at_group [4, 8, 9] 1 rfl (by kernel_rfl) rfl ?_
 refine yq (lda 0 m3 e3) (yq (ld fo 11 m1 e0 rfl) (yq (cq (.cons m1 (.cons m0 .nil)) (r6epoch_ok (o := r6epoch_s c f.n) rfl l _ _) pn) (qN ?_)))
 obtain ⟨r15, hr15, hs⟩ := bF hs
 refine tu 10 rfl (co (.cons m9 (.cons m0 (.cons .const .nil))) (eadd_ok hr15 eb _ _) (p4 pn)) ?_
 refine zz ?_
 refine tT (cS (ca 10 ?_))
 refine zt 0 rfl (mv (mU (mU m7))) ?_
 refine zt 1 rfl (mv (mU (mU m9))) ?_
 refine zt 2 rfl (nc m0) ?_
 refine zt 3 rfl (fd 6 (fo + 6) m0) ?_
 refine zt 5 rfl (mv (mU (mU m12))) ?_
 refine zt 6 rfl (nc m0) ?_
 refine zt 7 rfl (fd 11 (fo + 11) m0) ?_
 refine at_group [4, 8] 1 rfl (by kernel_rfl) rfl ?_
 refine yq (ld fo 6 m3 e1 rfl) (yq (ld fo 11 m1 e1 rfl) (qN ?_))
 obtain ⟨r16, hr16, hs⟩ := bO_of hs
 refine tu 9 rfl (co (.cons m8 (.cons .const (.cons m1 (.cons .const (.cons m0 (.cons .const .nil)))))) (eemit_ok hr16 eb _ _) (p5 pn)) ?_
 refine zz ?_
 refine tT (q2 (zp (mv (mU (mU m18))) (zp (nc m0) (zp (fd 11 (fo + 11) m0) (zq (ld fo 11 m0 e2 rfl) (zq (cq (.cons .const (.cons m0 .nil)) (r8end_ok (o := r8end_s 1 f.n) rfl  _ _) pn) (rz (sta 0 (mU (mU (mU m1))) m0 t4) (q4 (pkE (p3 pn) (tE ro_dup (pkE (p4 pn) (sf f ?_))))))))))))
 obtain rfl := sI hs
 exact fa (eU (eU (eU e1))) e4 (d2 (eP (p1 (p3 (p3 (p2 (p1 pn)))))))
def r8drain_s (c : Cfg) (m : MemV) (f : FrV) : ResV × MemV × FrV :=
 if f.line = 1 then
  bT (eload_s m 2) fun r4 =>
  if (wi r4.1) ≤ 0 then
   ((r8end_s 2 0), r4.2, f)
  else
  ((⟨false, 0, 0⟩ : ResV), r4.2, ({ f with line := 2 } : FrV))
 else
 bT (eload_s m (r6level_s c f.n)) fun r6 =>
 ((⟨false, 0, 0⟩ : ResV), r6.2, ({ f with line := 5, t := (wi r6.1) } : FrV))
theorem r8drain_ok {o : ResV × MemV × FrV} (hs : r8drain_s c m f = o) (eb : Nat) (l : CfgAt) (fb fo : Nat)  (B : Nat) (W : World)  : Fn_ Tryz.prog 137 #[vp eb 0, vp fb fo] B W [cP eb c l, memS eb 11 m, frS fb fo f] (X := Unit) (fun x => .agg #[.bool (o.1.done), vi o.1.code, vi o.1.value]) (fun x => [cP eb c l, memS eb 11 o.2.1, frS fb fo o.2.2]) := by
 unfold r8drain_s at hs
 refine fe2 Tryz.func137 38 rfl (fun F => ?_)
 refine q2 (rn (al [.bool false, zi, zi]) ?_)
 rintro b1
 refine q1 (cS (cS (ct_open pick3 ?_)))
 rintro ⟨A2, c2⟩
 refine cR (zp (mv m2) (zp (nc m0) (zp (fd 1 (fo + 1) m0) (zq (ld fo 1 m0 e0 rfl) (zp (eqL m0 .const) (q1 (ci hs m0 (fun h3 hs => ?_) (fun h3 hs => ?_))))))))
 ·refine cS (q2 (zp (mv m6) ?_))
  obtain ⟨r4, hr4, hs⟩ := bF hs
  refine ru (co (.cons m0 (.cons .const .nil)) (eload_ok hr4 eb _ _) (p4 pn)) (zp (op_convI m0 Tryz.underlying50 Tryz.underlying3) (zp (op_leq m0 .const) (q1 (ci hs m0 (fun h5 hs => ?_) (fun h5 hs => ?_)))))
  ·refine q2 (zq (cq (.cons .const (.cons .const .nil)) (r8end_ok (o := r8end_s 2 0) rfl  _ _) pn) (rz (sta 0 m10 m0 t3) (q4 (tR (tR (pkE (p2 pn) (tE ro_dup (pkE (p3 pn) (sf f ?_)))))))))
   subst hs
   exact fa e10 e3 (d2 (eP (p1 (p2 (p2 (p1 pn))))))
  refine cK (tT (q2 (zp (mv m11) (zp (nc m0) (zp (fd 1 (fo + 1) m0) (rz (st1 fo w1 m0 .const t1) (q3 (zp bz (rz (sta 0 m13 m0 t3) (q4 (tR (pkE (p2 pn) (tE ro_dup (pkE (p3 pn) (sf ({ f with line := 2 } : FrV) ?_)))))))))))))))
  subst hs
  exact fa e13 e3 (d2 (eP (p1 (p2 (p2 (p1 pn))))))
 refine cK (tT (cS (ca 16 ?_)))
 refine zt 0 rfl (mv m7) ?_
 refine zt 1 rfl (mv m7) ?_
 refine zt 2 rfl (mv m8) ?_
 refine zt 3 rfl (nc m0) ?_
 refine zt 4 rfl (fd 0 0 m0) ?_
 refine zt 6 rfl (mv m12) ?_
 refine zt 7 rfl (nc m0) ?_
 refine zt 8 rfl (fd 11 (fo + 11) m0) ?_
 refine at_group [5, 9, 10] 5 rfl (by kernel_rfl) rfl ?_
 refine yq (lda 0 m3 e3) (yq (ld fo 11 m1 e0 rfl) (yq (cq (.cons m1 (.cons m0 .nil)) (r6level_ok (o := r6level_s c f.n) rfl l _ _) pn) (qN ?_)))
 obtain ⟨r6, hr6, hs⟩ := bF hs
 refine tu 11 rfl (co (.cons m9 (.cons m0 .nil)) (eload_ok hr6 eb _ _) (p4 pn)) ?_
 refine zt 12 rfl (op_convI m0 Tryz.underlying50 Tryz.underlying3) ?_
 refine zt 13 rfl (nc m12) ?_
 refine zt 14 rfl (fd 12 (fo + 12) m0) ?_
 refine tz 15 rfl (st1 fo w12 m0 m2 t1) ?_
 refine zz ?_
 refine tT (q2 (zp (mv (mU m2)) (zp (nc m0) (zp (fd 1 (fo + 1) m0) (rz (st1 fo w1 m0 .const t1) (q3 (zp bz (rz (sta 0 (mU m4) m0 t3) (q4 (pkE (p2 pn) (tE ro_dup (pkE (p3 pn) (sf ({ f with line := 5, t := (wi r6.1) } : FrV) ?_)))))))))))))
 subst hs
 exact fa (eU e4) e3 (d2 (eP (p1 (p2 (p2 (p1 pn))))))
end Go.Proofs.YtpbkelpokpglaaaGreat
