/- The reference, function by function: a line. -/
import Derived.Test.YtpbkelpokpglaaaGreatKn
import Derived.Test.YtpbkelpokpglaaaGreatKo
import Derived.Test.YtpbkelpokpglaaaGreatKp
import Derived.Test.YtpbkelpokpglaaaGreatKq
import Derived.Test.YtpbkelpokpglaaaGreatKr
import Derived.Test.YtpbkelpokpglaaaGreatKs
import Derived.Test.YtpbkelpokpglaaaGreatKk
import Derived.Test.YtpbkelpokpglaaaGreatRows
set_option linter.all false
namespace Go.Proofs.YtpbkelpokpglaaaGreat
open Go Go.RowKit
set_option maxRecDepth 100000
set_option maxHeartbeats 2000000
variable {c : Cfg} {m : MemV} {now draw : Int} {recs : List RecV} {evs : List Ev} {f : FrV}
def r8leaf_s (c : Cfg) (m : MemV) (now : Int) (draw : Int) (recs : List RecV) (evs : List Ev) (f : FrV) : Option (ResV × MemV × (List RecV) × (List Ev) × FrV) :=
 if f.kind = 0 then
  (r8push_s m f).bind fun r4 =>
  some (r4.1, r4.2.1, recs, evs, r4.2.2)
 else
 if f.kind = 1 then
  (r8pop_s m f).bind fun r6 =>
  some (r6.1, r6.2.1, recs, evs, r6.2.2)
 else
 if f.kind = 2 then
  (r8steal_s m f).bind fun r8 =>
  some (r8.1, r8.2.1, recs, evs, r8.2.2)
 else
 if f.kind = 3 then
  (r1mask_s f.b).bind fun r10 =>
  bT (eor_s m f.a r10) fun r11 =>
  some ((r8end_s 0 0), r11.2, recs, evs, f)
 else
 if f.kind = 4 then
  (r8clearbit_s m f).bind fun r13 =>
  some (r13.1, r13.2.1, recs, evs, r13.2.2)
 else
 if f.kind = 6 then
  bT (eload_s m (r6bitmap_s c f.a)) fun r15 =>
  if r15.1 = 0 then
   some ((r8end_s 2 0), r15.2, recs, evs, ({ f with u := r15.1 } : FrV))
  else
  (r1high_s r15.1).bind fun r17 =>
  some ((⟨false, 0, 0⟩ : ResV), r15.2, recs, evs, ({ f with line := 2, i := r17, u := r15.1 } : FrV))
 else
 if (f.kind = 7) ∨ (f.kind = 8) then
  bT (ecas_s m 1 0 (wu (wi (f.a + 1)))) fun r20 =>
  if r20.1 = true then
   some ((r8end_s 1 0), r20.2, recs, evs, f)
  else
  if f.kind = 8 then
   some ((r8end_s 5 0), r20.2, recs, evs, f)
  else
  some ((⟨false, 0, 0⟩ : ResV), r20.2, recs, evs, f)
 else
 if f.kind = 9 then
  bT (estore_s m 1 0) fun r24 =>
  some ((r8end_s 0 0), r24, recs, evs, f)
 else
 if f.kind = 10 then
  (r8insert_s c m f).bind fun r26 =>
  some (r26.1, r26.2.1, recs, evs, r26.2.2)
 else
 if f.kind = 11 then
  (r8remove_s c m evs f).bind fun r28 =>
  some (r28.1, r28.2.1, recs, r28.2.2.1, r28.2.2.2)
 else
 if (f.kind = 12) ∨ ((f.kind = 13) ∨ ((f.kind = 14) ∨ (f.kind = 15))) then
  (r8table_s c m now recs evs f).bind fun r33 =>
  some (r33.1, r33.2.1, r33.2.2.1, r33.2.2.2.1, r33.2.2.2.2)
 else
 if (f.kind = 16) ∨ (f.kind = 17) then
  (r8boost_s c m recs evs f).bind fun r36 =>
  some (r36.1, r36.2.1, recs, r36.2.2.1, r36.2.2.2)
 else
 if f.kind = 18 then
  (r8sweep_s c m now recs evs f).bind fun r38 =>
  some (r38.1, r38.2.1, recs, r38.2.2.1, r38.2.2.2)
 else
 if f.kind = 19 then
  (r8sleep_s c m now evs f).bind fun r40 =>
  some (r40.1, r40.2.1, recs, r40.2.2.1, r40.2.2.2)
 else
 if f.kind = 20 then
  (r8wake_s c m evs f).bind fun r42 =>
  some (r42.1, r42.2.1, recs, r42.2.2.1, r42.2.2.2)
 else
 if f.kind = 21 then
  (r8probe_s c m draw f).bind fun r44 =>
  some (r44.1, r44.2.1, recs, evs, r44.2.2)
 else
 if f.kind = 22 then
  bT (r8drain_s c m f) fun r46 =>
  some (r46.1, r46.2.1, recs, evs, r46.2.2)
 else
 if f.kind = 24 then
  (r8run_s c m recs evs f).bind fun r48 =>
  some (r48.1, r48.2.1, r48.2.2.1, r48.2.2.2.1, r48.2.2.2.2)
 else
 if f.kind = 26 then
  (r8client_s c m now evs f).bind fun r50 =>
  some (r50.1, r50.2.1, recs, r50.2.2.1, r50.2.2.2)
 else
 some ((r8end_s 4 0), m, recs, evs, f)
theorem r8leaf_ok {o : ResV × MemV × (List RecV) × (List Ev) × FrV} (hs : r8leaf_s c m now draw recs evs f = some o) (eb : Nat) (l : CfgAt) (pl : List (Option Addr × Nat)) (RA : Option Addr) (RC : Nat) (fb fo : Nat)  (B : Nat) (W : World)  : Fn_ Tryz.prog 87 #[vp eb 0, vp fb fo] B W [cP eb c l, cfgL c l pl, memS eb 11 m, pts eb 17 [vi now], pts eb 18 [vi draw], pts eb 19 [.slice RA recs.length RC], recsS RA RC recs, evsS eb 20 evs, frS fb fo f] (X := Unit) (fun x => .agg #[.bool (o.1.done), vi o.1.code, vi o.1.value]) (fun x => [cP eb c l, cfgL c l pl, memS eb 11 o.2.1, pts eb 17 [vi now], pts eb 18 [vi draw], pts eb 19 [.slice RA o.2.2.1.length RC], recsS RA RC o.2.2.1, evsS eb 20 o.2.2.2.1, frS fb fo o.2.2.2.2]) := by
 unfold r8leaf_s at hs
 refine fe2 Tryz.func87 161 rfl (fun F => ?_)
 refine q2 (rn (al [.bool false, zi, zi]) ?_)
 rintro b1
 refine q1 (cS (cS (ct_open pick9 ?_)))
 rintro ⟨A2, c2⟩
 refine cR (zp (mv m2) (zp (nc m0) (zp (fd 0 fo m0) (zq (ld fo 0 m0 e0 rfl) (q1 (cB (q2 (zp (eqL m0 .const) (zp (asg m0) (q1 (ci hs m0 (fun h3 hs => ?_) (fun h3 hs => ?_))))))))))))
 ·refine q2 (zp (mv m7) (zp (mv m9) (pkR (p1 pn) (rE ro_dup (pkR (p2 pn) (rE (shut (N := itN frC FrV.l fb fo f) (A2, c2) rfl) ?_))))))
  obtain ⟨r4, hr4, hs⟩ := bO_of hs
  refine ru (co (.cons m1 (.cons m0 .nil)) (r8push_ok hr4 eb fb fo _ _) (p5 (p0 pn))) (rz (sta 0 m9 m0 t3) (q4 (bR (tR ?_))))
  obtain rfl := sI hs
  exact fa e9 e3 (d2 (eP (p2 (p2 (p2 (p2 (p0 (p1 (p1 (p1 (p1 (p1 pn))))))))))))
 refine q2 (zp (eqL m2 .const) (zp (asg m0) (q1 (ci hs m0 (fun h5 hs => ?_) (fun h5 hs => ?_)))))
 ·refine q2 (zp (mv m9) (zp (mv m11) (pkR (p1 pn) (rE ro_dup (pkR (p2 pn) (rE (shut (N := itN frC FrV.l fb fo f) (A2, c2) rfl) ?_))))))
  obtain ⟨r6, hr6, hs⟩ := bO_of hs
  refine ru (co (.cons m1 (.cons m0 .nil)) (r8pop_ok hr6 eb fb fo _ _) (p5 (p0 pn))) (rz (sta 0 m11 m0 t3) (q4 (bR (tR ?_))))
  obtain rfl := sI hs
  exact fa e11 e3 (d2 (eP (p2 (p2 (p2 (p2 (p0 (p1 (p1 (p1 (p1 (p1 pn))))))))))))
 refine q2 (zp (eqL m4 .const) (zp (asg m0) (q1 (ci hs m0 (fun h7 hs => ?_) (fun h7 hs => ?_)))))
 ·refine q2 (zp (mv m11) (zp (mv m13) (pkR (p1 pn) (rE ro_dup (pkR (p2 pn) (rE (shut (N := itN frC FrV.l fb fo f) (A2, c2) rfl) ?_))))))
  obtain ⟨r8, hr8, hs⟩ := bO_of hs
  refine ru (co (.cons m1 (.cons m0 .nil)) (r8steal_ok hr8 eb fb fo _ _) (p5 (p0 pn))) (rz (sta 0 m13 m0 t3) (q4 (bR (tR ?_))))
  obtain rfl := sI hs
  exact fa e13 e3 (d2 (eP (p2 (p2 (p2 (p2 (p0 (p1 (p1 (p1 (p1 (p1 pn))))))))))))
 refine q2 (zp (eqL m6 .const) (zp (asg m0) (q1 (ci hs m0 (fun h9 hs => ?_) (fun h9 hs => ?_)))))
 ·refine cS (ca 11 ?_)
  refine zt 0 rfl (mv m13) ?_
  refine zt 1 rfl (mv m15) ?_
  refine zt 2 rfl (nc m0) ?_
  refine zt 3 rfl (fd 6 (fo + 6) m0) ?_
  refine zt 5 rfl (mv m18) ?_
  refine zt 6 rfl (nc m0) ?_
  refine zt 7 rfl (fd 7 (fo + 7) m0) ?_
  refine at_group [4, 8, 9] 1 rfl (by kernel_rfl) rfl ?_
  refine yq (ld fo 6 m3 e0 rfl) (yq (ld fo 7 m1 e0 rfl) ?_)
  obtain ⟨r10, hr10, hs⟩ := bO_of hs
  refine yq (cq (.cons m0 .nil) (r1mask_ok hr10  _ _) pn) (qN ?_)
  obtain ⟨r11, hr11, hs⟩ := bF hs
  refine tu 10 rfl (co (.cons m9 (.cons m2 (.cons m0 .nil))) (eor_ok hr11 eb _ _) (p5 pn)) ?_
  refine zz ?_
  refine tT (q2 (zq (cq (.cons .const (.cons .const .nil)) (r8end_ok (o := r8end_s 0 0) rfl  _ _) pn) (rz (sta 0 (mU m4) m0 t3) (q4 (bR (tR (pkE (p2 pn) (tE ro_dup (pkE (p3 pn) (sf f ?_))))))))))
  obtain rfl := sI hs
  exact fa (eU e4) e3 (d2 (eP (p1 (p2 (p2 (p2 (p1 (p1 (p1 (p1 (p1 (p1 pn))))))))))))
 refine q2 (zp (eqL m8 .const) (zp (asg m0) (q1 (ci hs m0 (fun h12 hs => ?_) (fun h12 hs => ?_)))))
 ·refine q2 (zp (mv m15) (zp (mv m17) (pkR (p1 pn) (rE ro_dup (pkR (p2 pn) (rE (shut (N := itN frC FrV.l fb fo f) (A2, c2) rfl) ?_))))))
  obtain ⟨r13, hr13, hs⟩ := bO_of hs
  refine ru (co (.cons m1 (.cons m0 .nil)) (r8clearbit_ok hr13 eb fb fo _ _) (p5 (p0 pn))) (rz (sta 0 m17 m0 t3) (q4 (bR (tR ?_))))
  obtain rfl := sI hs
  exact fa e17 e3 (d2 (eP (p2 (p2 (p2 (p2 (p0 (p1 (p1 (p1 (p1 (p1 pn))))))))))))
 refine q2 (zp (eqL m10 .const) (zp (asg m0) (q1 (ci hs m0 (fun h14 hs => ?_) (fun h14 hs => ?_)))))
 ·refine cS (ca 15 ?_)
  refine zt 0 rfl (mv m18) ?_
  refine zt 1 rfl (mv m18) ?_
  refine zt 2 rfl (mv m19) ?_
  refine zt 3 rfl (nc m0) ?_
  refine zt 4 rfl (fd 0 0 m0) ?_
  refine zt 6 rfl (mv (mU m3)) ?_
  refine zt 7 rfl (nc m0) ?_
  refine zt 8 rfl (fd 6 (fo + 6) m0) ?_
  refine at_group [5, 9, 10] 4 rfl (by kernel_rfl) rfl ?_
  refine yq (lda 0 m3 e3) (yq (ld fo 6 m1 e0 rfl) (yq (cq (.cons m1 (.cons m0 .nil)) (r6bitmap_ok (o := r6bitmap_s c f.a) rfl l _ _) pn) (qN ?_)))
  obtain ⟨r15, hr15, hs⟩ := bF hs
  refine tu 11 rfl (co (.cons m9 (.cons m0 .nil)) (eload_ok hr15 eb _ _) (p5 pn)) ?_
  refine zt 12 rfl (nc m11) ?_
  refine zt 13 rfl (fd 13 (fo + 13) m0) ?_
  refine tz 14 rfl (st1 fo w13 m0 m2 t1) ?_
  refine zz ?_
  refine tT (cS (q2 (zp (mv (mU m12)) (zp (nc m0) (zp (fd 13 (fo + 13) m0) (zq (ld fo 13 m0 e1 rfl) (zp (eqL m0 .const) (q1 (ci hs m0 (fun h16 hs => ?_) (fun h16 hs => ?_))))))))))
  ·refine q2 (zq (cq (.cons .const (.cons .const .nil)) (r8end_ok (o := r8end_s 2 0) rfl  _ _) pn) (rz (sta 0 (mU m16) m0 t3) (q4 (tR (bR (tR (pkE (p2 pn) (tE ro_dup (pkE (p3 pn) (sf ({ f with u := r15.1 } : FrV) ?_))))))))))
   obtain rfl := sI hs
   exact fa (eU e16) e3 (d2 (eP (p1 (p2 (p2 (p2 (p1 (p1 (p1 (p1 (p1 (p1 pn))))))))))))
  refine cK (tT (q2 (zp (mv (mU m17)) (zp (mv (mU m18)) (zp (mv (mU m19)) (zp (nc m0) (zp (fd 13 (fo + 13) m0) (zq (ld fo 13 m0 e1 rfl) ?_))))))))
  obtain ⟨r17, hr17, hs⟩ := bO_of hs
  refine zq (cq (.cons m0 .nil) (r1high_ok hr17  _ _) pn) (zp (nc m6) (zp (fd 9 (fo + 9) m0) (rz (st1 fo w9 m0 m2 t1) (zp (nc m7) (zp (fd 1 (fo + 1) m0) (rz (st1 fo w1 m0 .const t1) (q3 (zp bz (rz (sta 0 (mU (mU m7)) m0 t3) (q4 (bR (tR (pkE (p2 pn) (tE ro_dup (pkE (p3 pn) (sf ({ f with line := 2, i := r17, u := r15.1 } : FrV) ?_))))))))))))))))
  obtain rfl := sI hs
  exact fa (eU (eU e7)) e3 (d2 (eP (p1 (p2 (p2 (p2 (p1 (p1 (p1 (p1 (p1 (p1 pn))))))))))))
 refine cS (q2 (zp (eqL m12 .const) (zp (asg m0) (q1 (ct_cut (X := Unit) (fun _ => True) (fun _ => [(77, .bool (decide ((f.kind = 7) ∨ (f.kind = 8)))), (8, vi f.kind), (4, vp b1 0), (0, vp eb 0), (1, vp fb fo)]) (fun _ => pts fb fo [vi f.kind, vi f.line, vi f.q.top, vi f.q.bottom, vi f.q.ring, vi f.q.cap, vi f.a, vi f.b, vi f.d, vi f.i, vi f.j, vi f.n, vi f.t, vu f.u, vu f.v, vu f.w, vu f.x, .slice A2 f.l.length c2] :: roS encInt 1 A2 c2 f.l :: pts b1 0 [.bool false, zi, zi] :: cP eb c l :: cfgL c l pl :: memS eb 11 m :: pts eb 17 [vi now] :: pts eb 18 [vi draw] :: pts eb 19 [.slice RA recs.length RC] :: recsS RA RC recs :: evsS eb 20 evs :: [F]) ?_ (fun _ _ => (?_ : CT _ _ _ _ _ _ _ _ _)))))))
 ·refine ct_if m0 (fun h18 => ?_) (fun h18 => ?_)
  ·exact cK (et_cut () trivial (.cons e0 (by simp only [eq_true h18, ↓reduceIte, reduceCtorEq, bS]) (lc e14 (lc e18 (lc e19 (lc (eU e0) .nil))))) Ent.refl)
  exact cR (zp (eqL m14 .const) (zo (asg m0) pick1 (rN (et_cut () trivial (.cons e0 (by simp only [eq_false h18, ↓reduceIte, reduceCtorEq, bS]) (lc e15 (lc e19 (lc (eU e0) (lc (eU e1) .nil))))) Ent.refl))))
 refine ci hs m0 (fun h19 hs => ?_) (fun h19 hs => ?_)
 ·refine cS (q2 (zp (mv m3) (zp (mv m5) (zp (nc m0) (zp (fd 6 (fo + 6) m0) (zq (ld fo 6 m0 e0 rfl) (zp (aI m0 .const) (zp (op_convU m0 Tryz.underlying3 Tryz.underlying50) ?_))))))))
  obtain ⟨r20, hr20, hs⟩ := bF hs
  refine ru (co (.cons m6 (.cons .const (.cons .const (.cons m0 .nil)))) (ecas_ok hr20 eb _ _) (p5 pn)) (q1 (cj hs m0 (fun h21 hs => ?_) (fun h21 hs => ?_)))
  ·refine q2 (zq (cq (.cons .const (.cons .const .nil)) (r8end_ok (o := r8end_s 1 0) rfl  _ _) pn) (rz (sta 0 m11 m0 t3) (q4 (tR (bR (tR (pkE (p2 pn) (tE ro_dup (pkE (p3 pn) (sf f ?_))))))))))
   obtain rfl := sI hs
   exact fa e11 e3 (d2 (eP (p1 (p2 (p2 (p2 (p1 (p1 (p1 (p1 (p1 (p1 pn))))))))))))
  refine cK (tT (cS (q2 (zp (mv m12) (zp (nc m0) (zp (fd 0 fo m0) (zq (ld fo 0 m0 e1 rfl) (zp (eqL m0 .const) (q1 (ci hs m0 (fun h22 hs => ?_) (fun h22 hs => ?_)))))))))))
  ·refine q2 (zq (cq (.cons .const (.cons .const .nil)) (r8end_ok (o := r8end_s 5 0) rfl  _ _) pn) (rz (sta 0 m16 m0 t3) (q4 (tR (bR (tR (pkE (p2 pn) (tE ro_dup (pkE (p3 pn) (sf f ?_))))))))))
   obtain rfl := sI hs
   exact fa e16 e3 (d2 (eP (p1 (p2 (p2 (p2 (p1 (p1 (p1 (p1 (p1 (p1 pn))))))))))))
  refine cK (tT (q2 (zp bz (rz (sta 0 m16 m0 t3) (q4 (bR (tR (pkE (p2 pn) (tE ro_dup (pkE (p3 pn) (sf f ?_)))))))))))
  obtain rfl := sI hs
  exact fa e16 e3 (d2 (eP (p1 (p2 (p2 (p2 (p1 (p1 (p1 (p1 (p1 (p1 pn))))))))))))
 refine q2 (zp (eqL m1 .const) (zp (asg m0) (q1 (ci hs m0 (fun h23 hs => ?_) (fun h23 hs => ?_)))))
 ·refine q2 (zp (mv m5) ?_)
  obtain ⟨r24, hr24, hs⟩ := bF hs
  refine ru (co (.cons m0 (.cons .const (.cons .const .nil))) (estore_ok hr24 eb _ _) (p5 pn)) (q3 (zq (cq (.cons .const (.cons .const .nil)) (r8end_ok (o := r8end_s 0 0) rfl  _ _) pn) (rz (sta 0 m7 m0 t3) (q4 (bR (tR (pkE (p2 pn) (tE ro_dup (pkE (p3 pn) (sf f ?_))))))))))
  obtain rfl := sI hs
  exact fa e7 e3 (d2 (eP (p1 (p2 (p2 (p2 (p1 (p1 (p1 (p1 (p1 (p1 pn))))))))))))
 refine q2 (zp (eqL m3 .const) (zp (asg m0) (q1 (ci hs m0 (fun h25 hs => ?_) (fun h25 hs => ?_)))))
 ·refine q2 (zp (mv m7) (zp (mv m9) (pkR (p1 pn) (rE ro_dup (pkR (p2 pn) (rE (shut (N := itN frC FrV.l fb fo f) (A2, c2) rfl) ?_))))))
  obtain ⟨r26, hr26, hs⟩ := bO_of hs
  refine ru (co (.cons m1 (.cons m0 .nil)) (r8insert_ok hr26 eb l fb fo _ _) (p3 (p4 (p0 pn)))) (rz (sta 0 m9 m0 t4) (q4 (bR (tR ?_))))
  obtain rfl := sI hs
  exact fa e9 e4 (d2 (eP (p3 (p3 (p0 (p2 (p0 (p1 (p1 (p1 (p1 (p1 pn))))))))))))
 refine q2 (zp (eqL m5 .const) (zp (asg m0) (q1 (ci hs m0 (fun h27 hs => ?_) (fun h27 hs => ?_)))))
 ·refine q2 (zp (mv m9) (zp (mv m11) (pkR (p1 pn) (rE ro_dup (pkR (p2 pn) (rE (shut (N := itN frC FrV.l fb fo f) (A2, c2) rfl) ?_))))))
  obtain ⟨r28, hr28, hs⟩ := bO_of hs
  refine ru (co (.cons m1 (.cons m0 .nil)) (r8remove_ok hr28 eb l fb fo _ _) (p3 (p4 (p8 (p0 pn))))) (rz (sta 0 m11 m0 t5) (q4 (bR (tR ?_))))
  obtain rfl := sI hs
  exact fa e11 e5 (d2 (eP (p4 (p4 (p0 (p3 (p0 (p2 (p2 (p2 (p2 pn)))))))))))
 refine cS (q2 (zp (eqL m7 .const) (zp (asg m0) (q1 (ct_cut (X := Unit) (fun _ => True) (fun _ => [(111, .bool (decide ((f.kind = 12) ∨ ((f.kind = 13) ∨ ((f.kind = 14) ∨ (f.kind = 15)))))), (8, vi f.kind), (4, vp b1 0), (0, vp eb 0), (1, vp fb fo)]) (fun _ => pts fb fo [vi f.kind, vi f.line, vi f.q.top, vi f.q.bottom, vi f.q.ring, vi f.q.cap, vi f.a, vi f.b, vi f.d, vi f.i, vi f.j, vi f.n, vi f.t, vu f.u, vu f.v, vu f.w, vu f.x, .slice A2 f.l.length c2] :: roS encInt 1 A2 c2 f.l :: pts b1 0 [.bool false, zi, zi] :: cP eb c l :: cfgL c l pl :: memS eb 11 m :: pts eb 17 [vi now] :: pts eb 18 [vi draw] :: pts eb 19 [.slice RA recs.length RC] :: recsS RA RC recs :: evsS eb 20 evs :: [F]) ?_ (fun _ _ => (?_ : CT _ _ _ _ _ _ _ _ _)))))))
 ·refine ct_if m0 (fun h29 => ?_) (fun h29 => ?_)
  ·exact cK (et_cut () trivial (.cons e0 (by simp only [eq_true h29, ↓reduceIte, reduceCtorEq, bS]) (lc e9 (lc e10 (lc e11 (lc e12 .nil))))) Ent.refl)
  refine q2 (zp (eqL m9 .const) (zo (asg m0) pick1 (q1 (ct_if m0 (fun h30 => ?_) (fun h30 => ?_)))))
  ·exact cK (et_cut () trivial (.cons e0 (by simp only [eq_false h29, eq_true h30, ↓reduceIte, reduceCtorEq, bS]) (lc e10 (lc e11 (lc e12 (lc e13 .nil))))) Ent.refl)
  refine q2 (zp (eqL m10 .const) (zo (asg m0) pick1 (q1 (ct_if m0 (fun h31 => ?_) (fun h31 => ?_)))))
  ·exact cK (et_cut () trivial (.cons e0 (by simp only [eq_false h29, eq_false h30, eq_true h31, ↓reduceIte, reduceCtorEq, bS]) (lc e11 (lc e12 (lc e13 (lc e14 .nil))))) Ent.refl)
  exact cR (zp (eqL m11 .const) (zo (asg m0) pick1 (rN (et_cut () trivial (.cons e0 (by simp only [eq_false h29, eq_false h30, eq_false h31, ↓reduceIte, reduceCtorEq, bS]) (lc e12 (lc e13 (lc e14 (lc e15 .nil))))) Ent.refl))))
 refine ci hs m0 (fun h32 hs => ?_) (fun h32 hs => ?_)
 ·refine q2 (zp (mv m3) (zp (mv m5) (pkR (p1 pn) (rE ro_dup (pkR (p2 pn) (rE (shut (N := itN frC FrV.l fb fo f) (A2, c2) rfl) ?_))))))
  obtain ⟨r33, hr33, hs⟩ := bO_of hs
  refine ru (co (.cons m1 (.cons m0 .nil)) (r8table_ok hr33 eb l RA RC fb fo _ _) (p3 (p4 (p4 (p5 (p5 (p5 (p0 pn)))))))) (rz (sta 0 m5 m0 t8) (q4 (bR (tR ?_))))
  obtain rfl := sI hs
  exact fa e5 e8 (d2 (eP (p7 (p7 (p0 (p6 (p0 (p0 (p4 pn)))))))))
 refine cS (q2 (zp (eqL m1 .const) (zp (asg m0) (q1 (ct_cut (X := Unit) (fun _ => True) (fun _ => [(119, .bool (decide ((f.kind = 16) ∨ (f.kind = 17)))), (8, vi f.kind), (4, vp b1 0), (0, vp eb 0), (1, vp fb fo)]) (fun _ => pts fb fo [vi f.kind, vi f.line, vi f.q.top, vi f.q.bottom, vi f.q.ring, vi f.q.cap, vi f.a, vi f.b, vi f.d, vi f.i, vi f.j, vi f.n, vi f.t, vu f.u, vu f.v, vu f.w, vu f.x, .slice A2 f.l.length c2] :: roS encInt 1 A2 c2 f.l :: pts b1 0 [.bool false, zi, zi] :: cP eb c l :: cfgL c l pl :: memS eb 11 m :: pts eb 17 [vi now] :: pts eb 18 [vi draw] :: pts eb 19 [.slice RA recs.length RC] :: recsS RA RC recs :: evsS eb 20 evs :: [F]) ?_ (fun _ _ => (?_ : CT _ _ _ _ _ _ _ _ _)))))))
 ·refine ct_if m0 (fun h34 => ?_) (fun h34 => ?_)
  ·exact cK (et_cut () trivial (.cons e0 (by simp only [eq_true h34, ↓reduceIte, reduceCtorEq, bS]) (lc e3 (lc e4 (lc e5 (lc e6 .nil))))) Ent.refl)
  exact cR (zp (eqL m3 .const) (zo (asg m0) pick1 (rN (et_cut () trivial (.cons e0 (by simp only [eq_false h34, ↓reduceIte, reduceCtorEq, bS]) (lc e4 (lc e5 (lc e6 (lc e7 .nil))))) Ent.refl))))
 refine ci hs m0 (fun h35 hs => ?_) (fun h35 hs => ?_)
 ·refine q2 (zp (mv m3) (zp (mv m5) (pkR (p1 pn) (rE ro_dup (pkR (p2 pn) (rE (shut (N := itN frC FrV.l fb fo f) (A2, c2) rfl) ?_))))))
  obtain ⟨r36, hr36, hs⟩ := bO_of hs
  refine ru (co (.cons m1 (.cons m0 .nil)) (r8boost_ok hr36 eb l RA RC fb fo _ _) (p3 (p4 (p6 (p7 (p0 pn)))))) (rz (sta 0 m5 m0 t6) (q4 (bR (tR ?_))))
  obtain rfl := sI hs
  exact fa e5 e6 (d2 (eP (p5 (p5 (p0 (p4 (p0 (p3 (p3 (p0 (p2 pn)))))))))))
 refine q2 (zp (eqL m1 .const) (zp (asg m0) (q1 (ci hs m0 (fun h37 hs => ?_) (fun h37 hs => ?_)))))
 ·refine q2 (zp (mv m5) (zp (mv m7) (pkR (p1 pn) (rE ro_dup (pkR (p2 pn) (rE (shut (N := itN frC FrV.l fb fo f) (A2, c2) rfl) ?_))))))
  obtain ⟨r38, hr38, hs⟩ := bO_of hs
  refine ru (co (.cons m1 (.cons m0 .nil)) (r8sweep_ok hr38 eb l RA RC fb fo _ _) (p3 (p4 (p4 (p5 (p6 (p0 pn))))))) (rz (sta 0 m7 m0 t7) (q4 (bR (tR ?_))))
  obtain rfl := sI hs
  exact fa e7 e7 (d2 (eP (p6 (p6 (p0 (p5 (p0 (p0 (p3 (p0 (p2 pn)))))))))))
 refine q2 (zp (eqL m3 .const) (zp (asg m0) (q1 (ci hs m0 (fun h39 hs => ?_) (fun h39 hs => ?_)))))
 ·refine q2 (zp (mv m7) (zp (mv m9) (pkR (p1 pn) (rE ro_dup (pkR (p2 pn) (rE (shut (N := itN frC FrV.l fb fo f) (A2, c2) rfl) ?_))))))
  obtain ⟨r40, hr40, hs⟩ := bO_of hs
  refine ru (co (.cons m1 (.cons m0 .nil)) (r8sleep_ok hr40 eb l fb fo _ _) (p3 (p4 (p4 (p7 (p0 pn)))))) (rz (sta 0 m9 m0 t6) (q4 (bR (tR ?_))))
  obtain rfl := sI hs
  exact fa e9 e6 (d2 (eP (p5 (p5 (p0 (p4 (p0 (p0 (p2 (p2 (p2 pn)))))))))))
 refine q2 (zp (eqL m5 .const) (zp (asg m0) (q1 (ci hs m0 (fun h41 hs => ?_) (fun h41 hs => ?_)))))
 ·refine q2 (zp (mv m9) (zp (mv m11) (pkR (p1 pn) (rE ro_dup (pkR (p2 pn) (rE (shut (N := itN frC FrV.l fb fo f) (A2, c2) rfl) ?_))))))
  obtain ⟨r42, hr42, hs⟩ := bO_of hs
  refine ru (co (.cons m1 (.cons m0 .nil)) (r8wake_ok hr42 eb l fb fo _ _) (p3 (p4 (p8 (p0 pn))))) (rz (sta 0 m11 m0 t5) (q4 (bR (tR ?_))))
  obtain rfl := sI hs
  exact fa e11 e5 (d2 (eP (p4 (p4 (p0 (p3 (p0 (p2 (p2 (p2 (p2 pn)))))))))))
 refine q2 (zp (eqL m7 .const) (zp (asg m0) (q1 (ci hs m0 (fun h43 hs => ?_) (fun h43 hs => ?_)))))
 ·refine q2 (zp (mv m11) (zp (mv m13) (pkR (p1 pn) (rE ro_dup (pkR (p2 pn) (rE (shut (N := itN frC FrV.l fb fo f) (A2, c2) rfl) ?_))))))
  obtain ⟨r44, hr44, hs⟩ := bO_of hs
  refine ru (co (.cons m1 (.cons m0 .nil)) (r8probe_ok hr44 eb l fb fo _ _) (p3 (p4 (p5 (p0 pn))))) (rz (sta 0 m13 m0 t5) (q4 (bR (tR ?_))))
  obtain rfl := sI hs
  exact fa e13 e5 (d2 (eP (p4 (p4 (p0 (p3 (p0 (p2 (p0 (p1 (p1 (p1 pn))))))))))))
 refine q2 (zp (eqL m9 .const) (zp (asg m0) (q1 (ci hs m0 (fun h45 hs => ?_) (fun h45 hs => ?_)))))
 ·refine q2 (zp (mv m13) (zp (mv m15) (pkR (p1 pn) (rE ro_dup (pkR (p2 pn) (rE (shut (N := itN frC FrV.l fb fo f) (A2, c2) rfl) ?_))))))
  obtain ⟨r46, hr46, hs⟩ := bF hs
  refine ru (co (.cons m1 (.cons m0 .nil)) (r8drain_ok hr46 eb l fb fo _ _) (p3 (p4 (p0 pn)))) (rz (sta 0 m15 m0 t4) (q4 (bR (tR ?_))))
  obtain rfl := sI hs
  exact fa e15 e4 (d2 (eP (p3 (p3 (p0 (p2 (p0 (p1 (p1 (p1 (p1 (p1 pn))))))))))))
 refine q2 (zp (eqL m11 .const) (zp (asg m0) (q1 (ci hs m0 (fun h47 hs => ?_) (fun h47 hs => ?_)))))
 ·refine q2 (zp (mv m15) (zp (mv m17) (pkR (p1 pn) (rE ro_dup (pkR (p2 pn) (rE (shut (N := itN frC FrV.l fb fo f) (A2, c2) rfl) ?_))))))
  obtain ⟨r48, hr48, hs⟩ := bO_of hs
  refine ru (co (.cons m1 (.cons m0 .nil)) (r8run_ok hr48 eb l pl RA RC fb fo _ _) (p3 (p3 (p3 (p5 (p5 (p5 (p0 pn)))))))) (rz (sta 0 m17 m0 t8) (q4 (bR (tR ?_))))
  obtain rfl := sI hs
  exact fa e17 e8 (d2 (eP (p7 (p7 (p0 (p0 (p0 (p4 (p4 pn)))))))))
 refine q2 (zp (eqL m13 .const) (zp (asg m0) (q1 (ci hs m0 (fun h49 hs => ?_) (fun h49 hs => ?_)))))
 ·refine q2 (zp (mv m17) (zp (mv m19) (pkR (p1 pn) (rE ro_dup (pkR (p2 pn) (rE (shut (N := itN frC FrV.l fb fo f) (A2, c2) rfl) ?_))))))
  obtain ⟨r50, hr50, hs⟩ := bO_of hs
  refine ru (co (.cons m1 (.cons m0 .nil)) (r8client_ok hr50 eb l pl fb fo _ _) (p3 (p3 (p3 (p3 (p6 (p0 pn))))))) (rz (sta 0 m19 m0 t7) (q4 (bR (tR ?_))))
  obtain rfl := sI hs
  exact fa e19 e7 (d2 (eP (p6 (p6 (p0 (p0 (p0 (p0 (p2 (p2 (p2 pn)))))))))))
 refine cK (tB (tT (q2 (zq (cq (.cons .const (.cons .const .nil)) (r8end_ok (o := r8end_s 4 0) rfl  _ _) pn) (rz (sta 0 m17 m0 t2) (q4 (pkE (p1 pn) (tE ro_dup (pkE (p2 pn) (sf f ?_))))))))))
 obtain rfl := sI hs
 exact fa e17 e2 (d2 (eP (p1 (p1 (p1 (p1 (p1 (p1 (p1 (p1 (p1 (p1 pn))))))))))))
def r8enter_s (c : Cfg) (recs : List RecV) (f : FrV) : Option (FrV × Bool × FrV) :=
 if f.kind = 5 then
  if f.line = 1 then
   some ((⟨0, 0, (r6queue_s c f.a f.b), f.d, 0, 0, 0, 0, 0, 0, 0, 0, 0, 0, []⟩ : FrV), true, f)
  else
  some ((⟨3, 0, (⟨0, 0, 0, 0⟩ : QV), (r6bitmap_s c f.a), f.b, 0, 0, 0, 0, 0, 0, 0, 0, 0, []⟩ : FrV), true, f)
 else
 if f.kind = 6 then
  if f.line = 2 then
   some ((⟨1, 0, (r6queue_s c f.a f.i), 0, 0, 0, 0, 0, 0, 0, 0, 0, 0, 0, []⟩ : FrV), true, f)
  else
  if f.line = 3 then
   some ((⟨4, 0, (r6queue_s c f.a f.i), (r6bitmap_s c f.a), f.i, 0, 0, 0, 0, 0, 0, 0, 0, 0, []⟩ : FrV), true, f)
  else
  some ((⟨0, 0, (⟨0, 0, 0, 0⟩ : QV), 0, 0, 0, 0, 0, 0, 0, 0, 0, 0, 0, []⟩ : FrV), false, f)
 else
 if f.kind = 15 then
  if f.line = 4 then
   some ((⟨5, 0, (⟨0, 0, 0, 0⟩ : QV), f.a, f.t, f.b, 0, 0, 0, 0, 0, 0, 0, 0, []⟩ : FrV), true, f)
  else
  some ((⟨0, 0, (⟨0, 0, 0, 0⟩ : QV), 0, 0, 0, 0, 0, 0, 0, 0, 0, 0, 0, []⟩ : FrV), false, f)
 else
 if f.kind = 17 then
  if (f.line = 1) ∧ (((etask_s c recs f.b) = true) ∧ ((0 ≤ f.d) ∧ (f.d < c.levels))) then
   some (({ f with kind := 16, line := 0, q := (⟨0, 0, 0, 0⟩ : QV), i := 0, j := 0, n := 0, t := 0, u := 0, v := 0, w := 0, x := 0, l := [] } : FrV), true, f)
  else
  if f.line = 3 then
   some ((⟨5, 0, (⟨0, 0, 0, 0⟩ : QV), f.a, f.d, f.b, 0, 0, 0, 0, 0, 0, 0, 0, []⟩ : FrV), true, f)
  else
  some ((⟨0, 0, (⟨0, 0, 0, 0⟩ : QV), 0, 0, 0, 0, 0, 0, 0, 0, 0, 0, 0, []⟩ : FrV), false, f)
 else
 if f.kind = 18 then
  if f.line = 6 then
   some ((⟨5, 0, (⟨0, 0, 0, 0⟩ : QV), f.a, f.t, f.b, 0, 0, 0, 0, 0, 0, 0, 0, []⟩ : FrV), true, f)
  else
  some ((⟨0, 0, (⟨0, 0, 0, 0⟩ : QV), 0, 0, 0, 0, 0, 0, 0, 0, 0, 0, 0, []⟩ : FrV), false, f)
 else
 if f.kind = 22 then
  bT (r8enterdrain_s f) fun r19 =>
  some (r19.1, r19.2, f)
 else
 if f.kind = 23 then
  if f.line = 1 then
   some ((⟨6, 0, (⟨0, 0, 0, 0⟩ : QV), f.a, 0, 0, 0, 0, 0, 0, 0, 0, 0, 0, []⟩ : FrV), true, f)
  else
  some ((⟨14, 0, (⟨0, 0, 0, 0⟩ : QV), f.a, f.n, 0, 0, 0, 0, 0, 0, 0, 0, 0, []⟩ : FrV), true, f)
 else
 if f.kind = 24 then
  (r8enterrun_s c recs f).bind fun r24 =>
  some (r24.1, r24.2.1, r24.2.2)
 else
 if f.kind = 25 then
  bT (r8enterworker_s c f) fun r27 =>
  some (r27.1, r27.2.1, r27.2.2)
 else
 if f.kind = 26 then
  (r8enterclient_s c f).bind fun r30 =>
  some (r30.1, r30.2, f)
 else
 some ((⟨0, 0, (⟨0, 0, 0, 0⟩ : QV), 0, 0, 0, 0, 0, 0, 0, 0, 0, 0, 0, []⟩ : FrV), false, f)
theorem r8enter_ok {o : FrV × Bool × FrV} (hs : r8enter_s c recs f = some o) (eb : Nat) (l : CfgAt) (pl : List (Option Addr × Nat)) (RA : Option Addr) (RC : Nat) (fb fo : Nat)  (B : Nat) (W : World)  : Fn_ Tryz.prog 86 #[vp eb 0, vp fb fo] B W [cP eb c l, cfgL c l pl, pts eb 19 [.slice RA recs.length RC], recsS RA RC recs, frS fb fo f] (X := Option Addr × Nat) (fun x => .tuple #[.agg #[vi o.1.kind, vi o.1.line, vi o.1.q.top, vi o.1.q.bottom, vi o.1.q.ring, vi o.1.q.cap, vi o.1.a, vi o.1.b, vi o.1.d, vi o.1.i, vi o.1.j, vi o.1.n, vi o.1.t, vu o.1.u, vu o.1.v, vu o.1.w, vu o.1.x, .slice x.1 o.1.l.length x.2], .bool (o.2.1)]) (fun x => [roS encInt 1 x.1 x.2 o.1.l, cP eb c l, cfgL c l pl, pts eb 19 [.slice RA recs.length RC], recsS RA RC recs, frS fb fo o.2.2]) := by
 unfold r8enter_s at hs
 refine fe2 Tryz.func86 256 rfl (fun F => ?_)
 refine q2 (rn (al [zi, zi, zi, zi, zi, zi, zi, zi, zi, zi, zi, zi, zi, vu 0, vu 0, vu 0, vu 0, .slice none 0 0]) ?_)
 rintro b1
 refine zp (asg .const) (q1 (cS (cS (ct_open pick5 ?_))))
 rintro ⟨A2, c2⟩
 refine cR (zp (mv m3) (zp (nc m0) (zp (fd 0 fo m0) (zq (ld fo 0 m0 e0 rfl) (q1 (cB (q2 (zp (eqL m0 .const) (zp (asg m0) (q1 (ci hs m0 (fun h3 hs => ?_) (fun h3 hs => ?_))))))))))))
 ·refine cS (q2 (zp (mv m9) (zp (nc m0) (zp (fd 1 (fo + 1) m0) (zq (ld fo 1 m0 e0 rfl) (zp (eqL m0 .const) (q1 (ci hs m0 (fun h4 hs => ?_) (fun h4 hs => ?_)))))))))
  ·refine cS (ca 20 ?_)
   refine zt 0 rfl (mv m13) ?_
   refine zt 1 rfl (nc m0) ?_
   refine zt 2 rfl (fd 0 0 m0) ?_
   refine zt 4 rfl (mv m17) ?_
   refine zt 5 rfl (nc m0) ?_
   refine zt 6 rfl (fd 6 (fo + 6) m0) ?_
   refine zt 8 rfl (mv (mU m0)) ?_
   refine zt 9 rfl (nc m0) ?_
   refine zt 10 rfl (fd 7 (fo + 7) m0) ?_
   refine zt 13 rfl (mv (mU m3)) ?_
   refine zt 14 rfl (nc m0) ?_
   refine zt 15 rfl (fd 8 (fo + 8) m0) ?_
   refine at_group [3, 7, 11, 12, 16, 17] 2 rfl (by kernel_rfl) rfl ?_
   refine yq (lda 0 m9 e3) (yq (ld fo 6 m7 e0 rfl) (yq (ld fo 7 m5 e0 rfl) (yq (cq (.cons m2 (.cons m1 (.cons m0 .nil))) (r6queue_ok (o := r6queue_s c f.a f.b) rfl l _ _) pn) (yq (ld fo 8 m4 e0 rfl) (yp (op_build (v := .agg #[zi, zi, vi ((r6queue_s c f.a f.b).top), vi ((r6queue_s c f.a f.b).bottom), vi ((r6queue_s c f.a f.b).ring), vi ((r6queue_s c f.a f.b).cap), vi f.d, zi, zi, zi, zi, zi, zi, vu 0, vu 0, vu 0, vu 0, .slice none 0 0]) (.cons .const (.cons m1 (.cons m0 .nil))) (fun _ => by kernel_rfl)) (qN (tz 18 rfl (sta 0 (mU m10) m0 t2) ?_)))))))
   refine at_take 19 (by kernel_rfl) rfl rfl rfl (asg .const) wants_none (put_over (pickU pick9) (by kernel_rfl)) ?_
   refine zz ?_
   refine tT (cQ (tR (bR (tR (pkE (p1 pn) (tE ro_dup (pkE (p2 pn) (sf f (tE (ro_nil (enc := encInt) (sz := 1) (A := none) (c := 0)) ?_)))))))))
   obtain rfl := sI hs
   exact fab ((none : Option Addr), 0) (eU e10) e3 e0 (d2 (eP (p2 (p2 (p0 (p1 (p1 (p1 (p1 pn)))))))))
  refine cK (tT (cS (ca 16 ?_)))
  refine zt 0 rfl (mv m13) ?_
  refine zt 1 rfl (nc m0) ?_
  refine zt 2 rfl (fd 0 0 m0) ?_
  refine zt 4 rfl (mv m17) ?_
  refine zt 5 rfl (nc m0) ?_
  refine zt 6 rfl (fd 6 (fo + 6) m0) ?_
  refine zt 9 rfl (mv (mU m0)) ?_
  refine zt 10 rfl (nc m0) ?_
  refine zt 11 rfl (fd 7 (fo + 7) m0) ?_
  refine at_group [3, 7, 8, 12, 13] 2 rfl (by kernel_rfl) rfl ?_
  refine yq (lda 0 m6 e3) (yq (ld fo 6 m4 e0 rfl) (yq (cq (.cons m1 (.cons m0 .nil)) (r6bitmap_ok (o := r6bitmap_s c f.a) rfl l _ _) pn) (yq (ld fo 7 m3 e0 rfl) (yp (op_build (v := .agg #[vi 3, zi, zi, zi, zi, zi, vi ((r6bitmap_s c f.a)), vi f.b, zi, zi, zi, zi, zi, vu 0, vu 0, vu 0, vu 0, .slice none 0 0]) (.cons .const (.cons m1 (.cons m0 .nil))) (fun _ => by kernel_rfl)) (qN (tz 14 rfl (sta 0 (mU m6) m0 t2) ?_))))))
  refine at_take 15 (by kernel_rfl) rfl rfl rfl (asg .const) wants_none (put_over (pickU pick5) (by kernel_rfl)) ?_
  refine zz ?_
  refine tT (cQ (bR (tR (pkE (p1 pn) (tE ro_dup (pkE (p2 pn) (sf f (tE (ro_nil (enc := encInt) (sz := 1) (A := none) (c := 0)) ?_))))))))
  obtain rfl := sI hs
  exact fab ((none : Option Addr), 0) (eU e6) e3 e0 (d2 (eP (p2 (p2 (p0 (p1 (p1 (p1 (p1 pn)))))))))
 refine q2 (zp (eqL m2 .const) (zp (asg m0) (q1 (ci hs m0 (fun h5 hs => ?_) (fun h5 hs => ?_)))))
 ·refine q2 (zp (mv m11) (zp (nc m0) (zp (fd 1 (fo + 1) m0) (zq (ld fo 1 m0 e0 rfl) (q1 (cB (q2 (zp (eqL m0 .const) (zp (asg m0) (q1 (ci hs m0 (fun h6 hs => ?_) (fun h6 hs => ?_))))))))))))
  ·refine cS (ca 16 ?_)
   refine zt 0 rfl (mv m16) ?_
   refine zt 1 rfl (nc m0) ?_
   refine zt 2 rfl (fd 0 0 m0) ?_
   refine zt 4 rfl (mv (mU m0)) ?_
   refine zt 5 rfl (nc m0) ?_
   refine zt 6 rfl (fd 6 (fo + 6) m0) ?_
   refine zt 8 rfl (mv (mU m3)) ?_
   refine zt 9 rfl (nc m0) ?_
   refine zt 10 rfl (fd 9 (fo + 9) m0) ?_
   refine at_group [3, 7, 11, 12, 13] 2 rfl (by kernel_rfl) rfl ?_
   refine yq (lda 0 m6 e3) (yq (ld fo 6 m4 e0 rfl) (yq (ld fo 9 m2 e0 rfl) (yq (cq (.cons m2 (.cons m1 (.cons m0 .nil))) (r6queue_ok (o := r6queue_s c f.a f.i) rfl l _ _) pn) (yp (op_build (v := .agg #[vi 1, zi, vi ((r6queue_s c f.a f.i).top), vi ((r6queue_s c f.a f.i).bottom), vi ((r6queue_s c f.a f.i).ring), vi ((r6queue_s c f.a f.i).cap), zi, zi, zi, zi, zi, zi, zi, vu 0, vu 0, vu 0, vu 0, .slice none 0 0]) (.cons .const (.cons m0 .nil)) (fun _ => by kernel_rfl)) (qN (tz 14 rfl (sta 0 (mU m9) m0 t2) ?_))))))
   refine at_take 15 (by kernel_rfl) rfl rfl rfl (asg .const) wants_none (put_over (pickU pick8) (by kernel_rfl)) ?_
   refine zz ?_
   refine tT (cQ (bR (bR (tR (pkE (p1 pn) (tE ro_dup (pkE (p2 pn) (sf f (tE (ro_nil (enc := encInt) (sz := 1) (A := none) (c := 0)) ?_)))))))))
   obtain rfl := sI hs
   exact fab ((none : Option Addr), 0) (eU e9) e3 e0 (d2 (eP (p2 (p2 (p0 (p1 (p1 (p1 (p1 pn)))))))))
  refine q2 (zp (eqL m2 .const) (zp (asg m0) (q1 (ci hs m0 (fun h7 hs => ?_) (fun h7 hs => ?_)))))
  ·refine cS (ca 29 ?_)
   refine zt 0 rfl (mv m18) ?_
   refine zt 1 rfl (nc m0) ?_
   refine zt 2 rfl (fd 0 0 m0) ?_
   refine zt 4 rfl (mv (mU m2)) ?_
   refine zt 5 rfl (nc m0) ?_
   refine zt 6 rfl (fd 6 (fo + 6) m0) ?_
   refine zt 9 rfl (mv (mU m5)) ?_
   refine zt 10 rfl (nc m0) ?_
   refine zt 11 rfl (fd 9 (fo + 9) m0) ?_
   refine zt 13 rfl (mv (mU m7)) ?_
   refine zt 14 rfl (nc m0) ?_
   refine zt 15 rfl (fd 0 0 m0) ?_
   refine zt 17 rfl (mv (mU m11)) ?_
   refine zt 18 rfl (nc m0) ?_
   refine zt 19 rfl (fd 6 (fo + 6) m0) ?_
   refine zt 21 rfl (mv (mU m14)) ?_
   refine zt 22 rfl (nc m0) ?_
   refine zt 23 rfl (fd 9 (fo + 9) m0) ?_
   refine at_group [3, 7, 8, 12, 16, 20, 24, 25, 26] 2 rfl (by kernel_rfl) rfl ?_
   refine yq (lda 0 m15 e3) (yq (ld fo 6 m13 e0 rfl) (yq (cq (.cons m1 (.cons m0 .nil)) (r6bitmap_ok (o := r6bitmap_s c f.a) rfl l _ _) pn) (yq (ld fo 9 m12 e0 rfl) (yq (lda 0 m10 e3) (yq (ld fo 6 m8 e0 rfl) (yq (ld fo 9 m6 e0 rfl) (yq (cq (.cons m2 (.cons m1 (.cons m0 .nil))) (r6queue_ok (o := r6queue_s c f.a f.i) rfl l _ _) pn) (yp (op_build (v := .agg #[vi 4, zi, vi ((r6queue_s c f.a f.i).top), vi ((r6queue_s c f.a f.i).bottom), vi ((r6queue_s c f.a f.i).ring), vi ((r6queue_s c f.a f.i).cap), vi ((r6bitmap_s c f.a)), vi f.i, zi, zi, zi, zi, zi, vu 0, vu 0, vu 0, vu 0, .slice none 0 0]) (.cons .const (.cons m5 (.cons m4 (.cons m0 .nil)))) (fun _ => by kernel_rfl)) (qN (tz 27 rfl (sta 0 (mU (mU m4)) m0 t2) ?_))))))))))
   refine at_take 28 (by kernel_rfl) rfl rfl rfl (asg .const) wants_none (put_over (pickU (pickU pick3)) (by kernel_rfl)) ?_
   refine zz ?_
   refine tT (cQ (bR (bR (tR (pkE (p1 pn) (tE ro_dup (pkE (p2 pn) (sf f (tE (ro_nil (enc := encInt) (sz := 1) (A := none) (c := 0)) ?_)))))))))
   obtain rfl := sI hs
   exact fab ((none : Option Addr), 0) (eU (eU e4)) e3 e0 (d2 (eP (p2 (p2 (p0 (p1 (p1 (p1 (p1 pn)))))))))
  refine cK (tB (tB (tT (q2 (zp (op_build (v := .agg #[zi, zi, zi, zi, zi, zi, zi, zi, zi, zi, zi, zi, zi, vu 0, vu 0, vu 0, vu 0, .slice none 0 0]) .nil (fun _ => by kernel_rfl)) (rz (sta 0 m18 m0 t2) (zo (asg .const) pick17 (q4 (pkE (p1 pn) (tE ro_dup (pkE (p2 pn) (sf f (tE (ro_nil (enc := encInt) (sz := 1) (A := none) (c := 0)) ?_)))))))))))))
  obtain rfl := sI hs
  exact fab ((none : Option Addr), 0) e18 e3 e0 (d2 (eP (p2 (p2 (p0 (p1 (p1 (p1 (p1 pn)))))))))
 refine q2 (zp (eqL m4 .const) (zp (asg m0) (q1 (ci hs m0 (fun h8 hs => ?_) (fun h8 hs => ?_)))))
 ·refine q2 (zp (mv m13) (zp (nc m0) (zp (fd 1 (fo + 1) m0) (zq (ld fo 1 m0 e0 rfl) (zp (eqL m0 .const) (q1 (ci hs m0 (fun h9 hs => ?_) (fun h9 hs => ?_))))))))
  ·refine cS (ca 15 ?_)
   refine zt 0 rfl (mv m18) ?_
   refine zt 1 rfl (nc m0) ?_
   refine zt 2 rfl (fd 6 (fo + 6) m0) ?_
   refine zt 4 rfl (mv (mU m1)) ?_
   refine zt 5 rfl (nc m0) ?_
   refine zt 6 rfl (fd 12 (fo + 12) m0) ?_
   refine zt 8 rfl (mv (mU m4)) ?_
   refine zt 9 rfl (nc m0) ?_
   refine zt 10 rfl (fd 7 (fo + 7) m0) ?_
   refine at_group [3, 7, 11, 12] 2 rfl (by kernel_rfl) rfl ?_
   refine yq (ld fo 6 m6 e0 rfl) (yq (ld fo 12 m4 e0 rfl) (yq (ld fo 7 m2 e0 rfl) (yp (op_build (v := .agg #[vi 5, zi, zi, zi, zi, zi, vi f.a, vi f.t, vi f.b, zi, zi, zi, zi, vu 0, vu 0, vu 0, vu 0, .slice none 0 0]) (.cons .const (.cons m2 (.cons m1 (.cons m0 .nil)))) (fun _ => by kernel_rfl)) (qN (tz 13 rfl (sta 0 (mU m9) m0 t2) ?_)))))
   refine at_take 14 (by kernel_rfl) rfl rfl rfl (asg .const) wants_none (put_over (pickU pick8) (by kernel_rfl)) ?_
   refine zz ?_
   refine tT (cQ (bR (tR (pkE (p1 pn) (tE ro_dup (pkE (p2 pn) (sf f (tE (ro_nil (enc := encInt) (sz := 1) (A := none) (c := 0)) ?_))))))))
   obtain rfl := sI hs
   exact fab ((none : Option Addr), 0) (eU e9) e3 e0 (d2 (eP (p2 (p2 (p0 (p1 (p1 (p1 (p1 pn)))))))))
  refine cK (tB (tT (q2 (zp (op_build (v := .agg #[zi, zi, zi, zi, zi, zi, zi, zi, zi, zi, zi, zi, zi, vu 0, vu 0, vu 0, vu 0, .slice none 0 0]) .nil (fun _ => by kernel_rfl)) (rz (sta 0 m17 m0 t2) (zo (asg .const) pick16 (q4 (pkE (p1 pn) (tE ro_dup (pkE (p2 pn) (sf f (tE (ro_nil (enc := encInt) (sz := 1) (A := none) (c := 0)) ?_))))))))))))
  obtain rfl := sI hs
  exact fab ((none : Option Addr), 0) e17 e3 e0 (d2 (eP (p2 (p2 (p0 (p1 (p1 (p1 (p1 pn)))))))))
 refine q2 (zp (eqL m6 .const) (zp (asg m0) (q1 (ci hs m0 (fun h10 hs => ?_) (fun h10 hs => ?_)))))
 ·refine cB (cS (ct_cut (X := Unit) (fun _ => True) (fun _ => [(122, .bool (decide ((f.line = 1) ∧ (((etask_s c recs f.b) = true) ∧ ((0 ≤ f.d) ∧ (f.d < c.levels)))))), (5, .bool false), (4, vp b1 0), (1, vp fb fo)]) (fun _ => pts fb fo [vi f.kind, vi f.line, vi f.q.top, vi f.q.bottom, vi f.q.ring, vi f.q.cap, vi f.a, vi f.b, vi f.d, vi f.i, vi f.j, vi f.n, vi f.t, vu f.u, vu f.v, vu f.w, vu f.x, .slice A2 f.l.length c2] :: roS encInt 1 A2 c2 f.l :: pts b1 0 [zi, zi, zi, zi, zi, zi, zi, zi, zi, zi, zi, zi, zi, vu 0, vu 0, vu 0, vu 0, .slice none 0 0] :: cP eb c l :: cfgL c l pl :: pts eb 19 [.slice RA recs.length RC] :: recsS RA RC recs :: [F]) ?_ (fun _ _ => (?_ : CT _ _ _ _ _ _ _ _ _))))
  ·refine ct_draw (by kernel_rfl) (by kernel_rfl) ?_
   refine yp (mv m15) (yp (nc m0) (yp (fd 1 (fo + 1) m0) (yq (ld fo 1 m0 e0 rfl) (yp (eqL m0 .const) (yp (mv m0) (qt_case t0 t0 (fun h11 => ?_) (fun h11 => ?_)))))))
   ·refine yw (mv (mU m0)).q rfl rfl e0 (yw (mv (mU m2)).q rfl rfl e1 (yw (nc m0).q rfl rfl e2 (yw (fd 7 (fo + 7) m0).q rfl rfl e3 (yw (ld fo 7 m0 e0 rfl) rfl rfl e4 (yw (cq (.cons m4 (.cons m0 .nil)) (etask_ok (o := etask_s c recs f.b) rfl eb l RA RC _ _) (p3 (p4 pn))) rfl rfl e5 (yp (op_pick (b := true) m6 m0) (yp (mv m0) (qt_caseb t0 t0 (fun h12 => ?_) (fun h12 => ?_)))))))))
    ·refine yw (mv (mU m9)).q rfl rfl e0 (yw (nc m0).q rfl rfl e1 (yw (fd 8 (fo + 8) m0).q rfl rfl e2 (yw (ld fo 8 m0 e0 rfl) rfl rfl e3 (yw (op_geq m0 .const).q rfl rfl e4 (yp (op_pick (b := true) m5 m0) (yp (mv m0) (qt_case t0 t0 (fun h13 => ?_) (fun h13 => ?_))))))))
     ·exact yw (mv (mU m16)).q rfl rfl e0 (yw (nc m0).q rfl rfl e1 (yw (fd 8 (fo + 8) m0).q rfl rfl e2 (yw (ld fo 8 m0 e0 rfl) rfl rfl e3 (yw (mv (mU m19)).q rfl rfl e4 (yw (nc m0).q rfl rfl e5 (yw (fd 0 0 m0).q rfl rfl e6 (yw (fd 1 1 m0).q rfl rfl e7 (yw (ld 0 1 m0 e3 rfl) rfl rfl e8 (yw (op_lss m5 m0).q rfl rfl e9 (yp (op_pick (b := true) m10 m0) (yp (asg m0) (qN (et_cut () trivial (.cons e0 (by simp only [eq_true h11, eq_true h12, eq_true h13, ↓reduceIte, reduceCtorEq, bS]) (lc (eU (eU e5)) (lc (eU (eU e6)) (lc (eU (eU e8)) .nil)))) Ent.refl)))))))))))))
     exact yk rfl rfl e0 (yk rfl rfl e1 (yk rfl rfl e2 (yk rfl rfl e3 (yk rfl rfl e4 (yk rfl rfl e5 (yk rfl rfl e6 (yk rfl rfl e7 (yk rfl rfl e8 (yk rfl rfl e9 (yp (op_pick (b := false) m10 .const) (yp (asg m0) (qN (et_cut () trivial (.cons e0 (by simp only [eq_true h11, eq_true h12, eq_false h13, ↓reduceIte, reduceCtorEq, bS]) (lc (eU (eU e5)) (lc (eU (eU e6)) (lc (eU (eU e8)) .nil)))) Ent.refl)))))))))))))
    exact yk rfl rfl e0 (yk rfl rfl e1 (yk rfl rfl e2 (yk rfl rfl e3 (yk rfl rfl e4 (yp (op_pick (b := false) m5 .const) (yp (mv m0) (yk rfl rfl e0 (yk rfl rfl e1 (yk rfl rfl e2 (yk rfl rfl e3 (yk rfl rfl e4 (yk rfl rfl e5 (yk rfl rfl e6 (yk rfl rfl e7 (yk rfl rfl e8 (yk rfl rfl e9 (yp (op_pick (b := false) m10 .const) (yp (asg m0) (qN (et_cut () trivial (.cons e0 (by simp only [eq_true h11, eq_false (bne_t h12), ↓reduceIte, reduceCtorEq, bS]) (lc (eU (eU e5)) (lc (eU (eU e6)) (lc (eU (eU e8)) .nil)))) Ent.refl))))))))))))))))))))
   exact yk rfl rfl e0 (yk rfl rfl e1 (yk rfl rfl e2 (yk rfl rfl e3 (yk rfl rfl e4 (yk rfl rfl e5 (yp (op_pick (b := false) m6 .const) (yp (mv m0) (yk rfl rfl e0 (yk rfl rfl e1 (yk rfl rfl e2 (yk rfl rfl e3 (yk rfl rfl e4 (yp (op_pick (b := false) m5 .const) (yp (mv m0) (yk rfl rfl e0 (yk rfl rfl e1 (yk rfl rfl e2 (yk rfl rfl e3 (yk rfl rfl e4 (yk rfl rfl e5 (yk rfl rfl e6 (yk rfl rfl e7 (yk rfl rfl e8 (yk rfl rfl e9 (yp (op_pick (b := false) m10 .const) (yp (asg m0) (qN (et_cut () trivial (.cons e0 (by simp only [eq_false h11, ↓reduceIte, reduceCtorEq, bS]) (lc (eU (eU e5)) (lc (eU (eU e6)) (lc (eU (eU e8)) .nil)))) Ent.refl))))))))))))))))))))))))))))
  refine ci hs m0 (fun h14 hs => ?_) (fun h14 hs => ?_)
  ·refine cS (ca 15 ?_)
   refine zt 0 rfl (mv m3) ?_
   refine zt 1 rfl (nc m0) ?_
   refine zt 2 rfl (fd 6 (fo + 6) m0) ?_
   refine zt 4 rfl (mv m6) ?_
   refine zt 5 rfl (nc m0) ?_
   refine zt 6 rfl (fd 7 (fo + 7) m0) ?_
   refine zt 8 rfl (mv m9) ?_
   refine zt 9 rfl (nc m0) ?_
   refine zt 10 rfl (fd 8 (fo + 8) m0) ?_
   refine at_group [3, 7, 11, 12] 2 rfl (by kernel_rfl) rfl ?_
   refine yq (ld fo 6 m6 e0 rfl) (yq (ld fo 7 m4 e0 rfl) (yq (ld fo 8 m2 e0 rfl) (yp (op_build (v := .agg #[vi 16, zi, zi, zi, zi, zi, vi f.a, vi f.b, vi f.d, zi, zi, zi, zi, vu 0, vu 0, vu 0, vu 0, .slice none 0 0]) (.cons .const (.cons m2 (.cons m1 (.cons m0 .nil)))) (fun _ => by kernel_rfl)) (qN (tz 13 rfl (sta 0 m15 m0 t2) ?_)))))
   refine at_take 14 (by kernel_rfl) rfl rfl rfl (asg .const) wants_none (put_over pick14 (by kernel_rfl)) ?_
   refine zz ?_
   refine tT (cQ (bR (bR (tR (pkE (p1 pn) (tE ro_dup (pkE (p2 pn) (sf f (tE (ro_nil (enc := encInt) (sz := 1) (A := none) (c := 0)) ?_)))))))))
   obtain rfl := sI hs
   exact fab ((none : Option Addr), 0) e15 e3 e0 (d2 (eP (p2 (p2 (p0 (p1 (p1 (p1 (p1 pn)))))))))
  refine q2 (zp (mv m3) (zp (nc m0) (zp (fd 1 (fo + 1) m0) (zq (ld fo 1 m0 e0 rfl) (zp (eqL m0 .const) (zp (asg m0) (q1 (ci hs m0 (fun h15 hs => ?_) (fun h15 hs => ?_)))))))))
  ·refine cS (ca 15 ?_)
   refine zt 0 rfl (mv m9) ?_
   refine zt 1 rfl (nc m0) ?_
   refine zt 2 rfl (fd 6 (fo + 6) m0) ?_
   refine zt 4 rfl (mv m12) ?_
   refine zt 5 rfl (nc m0) ?_
   refine zt 6 rfl (fd 8 (fo + 8) m0) ?_
   refine zt 8 rfl (mv m15) ?_
   refine zt 9 rfl (nc m0) ?_
   refine zt 10 rfl (fd 7 (fo + 7) m0) ?_
   refine at_group [3, 7, 11, 12] 2 rfl (by kernel_rfl) rfl ?_
   refine yq (ld fo 6 m6 e0 rfl) (yq (ld fo 8 m4 e0 rfl) (yq (ld fo 7 m2 e0 rfl) (yp (op_build (v := .agg #[vi 5, zi, zi, zi, zi, zi, vi f.a, vi f.d, vi f.b, zi, zi, zi, zi, vu 0, vu 0, vu 0, vu 0, .slice none 0 0]) (.cons .const (.cons m2 (.cons m1 (.cons m0 .nil)))) (fun _ => by kernel_rfl)) (qN (tz 13 rfl (sta 0 (mU m1) m0 t2) ?_)))))
   refine at_take 14 (by kernel_rfl) rfl rfl rfl (asg .const) wants_none (put_over (pickU pick0) (by kernel_rfl)) ?_
   refine zz ?_
   refine tT (cQ (bR (bR (tR (pkE (p1 pn) (tE ro_dup (pkE (p2 pn) (sf f (tE (ro_nil (enc := encInt) (sz := 1) (A := none) (c := 0)) ?_)))))))))
   obtain rfl := sI hs
   exact fab ((none : Option Addr), 0) (eU e1) e3 e0 (d2 (eP (p2 (p2 (p0 (p1 (p1 (p1 (p1 pn)))))))))
  refine cK (tB (tB (tT (q2 (zp (op_build (v := .agg #[zi, zi, zi, zi, zi, zi, zi, zi, zi, zi, zi, zi, zi, vu 0, vu 0, vu 0, vu 0, .slice none 0 0]) .nil (fun _ => by kernel_rfl)) (rz (sta 0 m9 m0 t2) (zo (asg .const) pick8 (q4 (pkE (p1 pn) (tE ro_dup (pkE (p2 pn) (sf f (tE (ro_nil (enc := encInt) (sz := 1) (A := none) (c := 0)) ?_)))))))))))))
  obtain rfl := sI hs
  exact fab ((none : Option Addr), 0) e9 e3 e0 (d2 (eP (p2 (p2 (p0 (p1 (p1 (p1 (p1 pn)))))))))
 refine q2 (zp (eqL m8 .const) (zp (asg m0) (q1 (ci hs m0 (fun h16 hs => ?_) (fun h16 hs => ?_)))))
 ·refine q2 (zp (mv m17) (zp (nc m0) (zp (fd 1 (fo + 1) m0) (zq (ld fo 1 m0 e0 rfl) (zp (eqL m0 .const) (q1 (ci hs m0 (fun h17 hs => ?_) (fun h17 hs => ?_))))))))
  ·refine cS (ca 15 ?_)
   refine zt 0 rfl (mv (mU m2)) ?_
   refine zt 1 rfl (nc m0) ?_
   refine zt 2 rfl (fd 6 (fo + 6) m0) ?_
   refine zt 4 rfl (mv (mU m5)) ?_
   refine zt 5 rfl (nc m0) ?_
   refine zt 6 rfl (fd 12 (fo + 12) m0) ?_
   refine zt 8 rfl (mv (mU m8)) ?_
   refine zt 9 rfl (nc m0) ?_
   refine zt 10 rfl (fd 7 (fo + 7) m0) ?_
   refine at_group [3, 7, 11, 12] 2 rfl (by kernel_rfl) rfl ?_
   refine yq (ld fo 6 m6 e0 rfl) (yq (ld fo 12 m4 e0 rfl) (yq (ld fo 7 m2 e0 rfl) (yp (op_build (v := .agg #[vi 5, zi, zi, zi, zi, zi, vi f.a, vi f.t, vi f.b, zi, zi, zi, zi, vu 0, vu 0, vu 0, vu 0, .slice none 0 0]) (.cons .const (.cons m2 (.cons m1 (.cons m0 .nil)))) (fun _ => by kernel_rfl)) (qN (tz 13 rfl (sta 0 (mU m13) m0 t2) ?_)))))
   refine at_take 14 (by kernel_rfl) rfl rfl rfl (asg .const) wants_none (put_over (pickU pick12) (by kernel_rfl)) ?_
   refine zz ?_
   refine tT (cQ (bR (tR (pkE (p1 pn) (tE ro_dup (pkE (p2 pn) (sf f (tE (ro_nil (enc := encInt) (sz := 1) (A := none) (c := 0)) ?_))))))))
   obtain rfl := sI hs
   exact fab ((none : Option Addr), 0) (eU e13) e3 e0 (d2 (eP (p2 (p2 (p0 (p1 (p1 (p1 (p1 pn)))))))))
  refine cK (tB (tT (q2 (zp (op_build (v := .agg #[zi, zi, zi, zi, zi, zi, zi, zi, zi, zi, zi, zi, zi, vu 0, vu 0, vu 0, vu 0, .slice none 0 0]) .nil (fun _ => by kernel_rfl)) (rz (sta 0 (mU m1) m0 t2) (zo (asg .const) (pickU pick0) (q4 (pkE (p1 pn) (tE ro_dup (pkE (p2 pn) (sf f (tE (ro_nil (enc := encInt) (sz := 1) (A := none) (c := 0)) ?_))))))))))))
  obtain rfl := sI hs
  exact fab ((none : Option Addr), 0) (eU e1) e3 e0 (d2 (eP (p2 (p2 (p0 (p1 (p1 (p1 (p1 pn)))))))))
 refine q2 (zp (eqL m10 .const) (zp (asg m0) (q1 (ci hs m0 (fun h18 hs => ?_) (fun h18 hs => ?_)))))
 ·refine q2 (zp (mv m19) (pkR (p1 pn) (rE ro_dup (pkR (p2 pn) (rE (shut (N := itN frC FrV.l fb fo f) (A2, c2) rfl) ?_)))))
  obtain ⟨r19, hr19, hs⟩ := bF hs
  refine rn (co (.cons m0 .nil) (r8enterdrain_ok hr19 fb fo _ _) (p0 pn)) ?_
  rintro ⟨A20, c20⟩
  refine zp (op_extract m0 rfl) (zp (op_extract m1 rfl) (rz (sta 0 (mU m1) m1 t3) (zo (asg m0) (pickU pick0) (q4 (bR (tR (tE ro_dup ?_)))))))
  obtain rfl := sI hs
  exact fab ((A20 : Option Addr), c20) (eU e1) e4 e0 (d3 (eP (p1 (p2 (p2 (p0 (p1 (p1 (p1 (p1 pn))))))))))
 refine q2 (zp (eqL m12 .const) (zp (asg m0) (q1 (ci hs m0 (fun h21 hs => ?_) (fun h21 hs => ?_)))))
 ·refine cS (q2 (zp (mv (mU m1)) (zp (nc m0) (zp (fd 1 (fo + 1) m0) (zq (ld fo 1 m0 e0 rfl) (zp (eqL m0 .const) (q1 (ci hs m0 (fun h22 hs => ?_) (fun h22 hs => ?_)))))))))
  ·refine q2 (zp (mv (mU m6)) (zp (nc m0) (zp (fd 6 (fo + 6) m0) (zq (ld fo 6 m0 e0 rfl) (zp (op_build (v := .agg #[vi 6, zi, zi, zi, zi, zi, vi f.a, zi, zi, zi, zi, zi, zi, vu 0, vu 0, vu 0, vu 0, .slice none 0 0]) (.cons .const (.cons m0 .nil)) (fun _ => by kernel_rfl)) (rz (sta 0 (mU m9) m0 t2) (zo (asg .const) (pickU pick8) (q4 (tR (bR (tR (pkE (p1 pn) (tE ro_dup (pkE (p2 pn) (sf f (tE (ro_nil (enc := encInt) (sz := 1) (A := none) (c := 0)) ?_))))))))))))))))
   obtain rfl := sI hs
   exact fab ((none : Option Addr), 0) (eU e9) e3 e0 (d2 (eP (p2 (p2 (p0 (p1 (p1 (p1 (p1 pn)))))))))
  refine cK (tT (cS (ca 11 ?_)))
  refine zt 0 rfl (mv (mU m6)) ?_
  refine zt 1 rfl (nc m0) ?_
  refine zt 2 rfl (fd 6 (fo + 6) m0) ?_
  refine zt 4 rfl (mv (mU m9)) ?_
  refine zt 5 rfl (nc m0) ?_
  refine zt 6 rfl (fd 11 (fo + 11) m0) ?_
  refine at_group [3, 7, 8] 2 rfl (by kernel_rfl) rfl ?_
  refine yq (ld fo 6 m3 e0 rfl) (yq (ld fo 11 m1 e0 rfl) (yp (op_build (v := .agg #[vi 14, zi, zi, zi, zi, zi, vi f.a, vi f.n, zi, zi, zi, zi, zi, vu 0, vu 0, vu 0, vu 0, .slice none 0 0]) (.cons .const (.cons m1 (.cons m0 .nil))) (fun _ => by kernel_rfl)) (qN (tz 9 rfl (sta 0 (mU m13) m0 t2) ?_))))
  refine at_take 10 (by kernel_rfl) rfl rfl rfl (asg .const) wants_none (put_over (pickU pick12) (by kernel_rfl)) ?_
  refine zz ?_
  refine tT (cQ (bR (tR (pkE (p1 pn) (tE ro_dup (pkE (p2 pn) (sf f (tE (ro_nil (enc := encInt) (sz := 1) (A := none) (c := 0)) ?_))))))))
  obtain rfl := sI hs
  exact fab ((none : Option Addr), 0) (eU e13) e3 e0 (d2 (eP (p2 (p2 (p0 (p1 (p1 (p1 (p1 pn)))))))))
 refine q2 (zp (eqL m14 .const) (zp (asg m0) (q1 (ci hs m0 (fun h23 hs => ?_) (fun h23 hs => ?_)))))
 ·refine q2 (zp (mv (mU m2)) (zp (mv (mU m4)) (pkR (p1 pn) (rE ro_dup (pkR (p2 pn) (rE (shut (N := itN frC FrV.l fb fo f) (A2, c2) rfl) ?_))))))
  obtain ⟨r24, hr24, hs⟩ := bO_of hs
  refine rn (co (.cons m1 (.cons m0 .nil)) (r8enterrun_ok hr24 eb l pl RA RC fb fo _ _) (p3 (p3 (p3 (p3 (p0 pn)))))) ?_
  rintro ⟨A25, c25⟩
  refine zp (op_extract m0 rfl) (zp (op_extract m1 rfl) (rz (sta 0 (mU m6) m1 t7) (zo (asg m0) (pickU pick5) (q4 (bR (tR (tE ro_dup ?_)))))))
  obtain rfl := sI hs
  exact fab ((A25 : Option Addr), c25) (eU e6) e8 e0 (d3 (eP (p1 (p6 (p6 pn)))))
 refine q2 (zp (eqL m16 .const) (zp (asg m0) (q1 (ci hs m0 (fun h26 hs => ?_) (fun h26 hs => ?_)))))
 ·refine q2 (zp (mv (mU m4)) (zp (mv (mU m6)) (pkR (p1 pn) (rE ro_dup (pkR (p2 pn) (rE (shut (N := itN frC FrV.l fb fo f) (A2, c2) rfl) ?_))))))
  obtain ⟨r27, hr27, hs⟩ := bF hs
  refine rn (co (.cons m1 (.cons m0 .nil)) (r8enterworker_ok hr27 eb l fb fo _ _) (p3 (p0 pn))) ?_
  rintro ⟨A28, c28⟩
  refine zp (op_extract m0 rfl) (zp (op_extract m1 rfl) (rz (sta 0 (mU m8) m1 t4) (zo (asg m0) (pickU pick7) (q4 (bR (tR (tE ro_dup ?_)))))))
  obtain rfl := sI hs
  exact fab ((A28 : Option Addr), c28) (eU e8) e5 e0 (d3 (eP (p1 (p3 (p3 (p0 (p0 (p1 (p1 (p1 pn))))))))))
 refine q2 (zp (eqL m18 .const) (zp (asg m0) (q1 (ci hs m0 (fun h29 hs => ?_) (fun h29 hs => ?_)))))
 ·refine q2 (zp (mv (mU m6)) (zp (mv (mU m8)) (pkR (p1 pn) (rE ro_dup (pkR (p2 pn) (rE (shut (N := itN frC FrV.l fb fo f) (A2, c2) rfl) ?_))))))
  obtain ⟨r30, hr30, hs⟩ := bO_of hs
  refine rn (co (.cons m1 (.cons m0 .nil)) (r8enterclient_ok hr30 eb l pl fb fo _ _) (p3 (p3 (p0 pn)))) ?_
  rintro ⟨A31, c31⟩
  refine zp (op_extract m0 rfl) (zp (op_extract m1 rfl) (rz (sta 0 (mU m10) m1 t5) (zo (asg m0) (pickU pick9) (q4 (bR (tR (tE ro_dup ?_)))))))
  obtain rfl := sI hs
  exact fab ((A31 : Option Addr), c31) (eU e10) e6 e0 (d3 (eP (p1 (p4 (p4 (p0 (p0 (p0 (p1 (p1 pn))))))))))
 refine cK (tB (tT (q2 (zp (op_build (v := .agg #[zi, zi, zi, zi, zi, zi, zi, zi, zi, zi, zi, zi, zi, vu 0, vu 0, vu 0, vu 0, .slice none 0 0]) .nil (fun _ => by kernel_rfl)) (rz (sta 0 (mU m6) m0 t2) (zo (asg .const) (pickU pick5) (q4 (pkE (p1 pn) (tE ro_dup (pkE (p2 pn) (sf f (tE (ro_nil (enc := encInt) (sz := 1) (A := none) (c := 0)) ?_))))))))))))
 obtain rfl := sI hs
 exact fab ((none : Option Addr), 0) (eU e6) e3 e0 (d2 (eP (p2 (p2 (p0 (p1 (p1 (p1 (p1 pn)))))))))
def r8back_s (c : Cfg) (recs : List RecV) (evs : List Ev) (f : FrV) (code : Int) (value : Int) : Option (ResV × (List RecV) × (List Ev) × FrV) :=
 if f.kind = 5 then
  if (f.line = 2) ∨ (code = 3) then
   some ((r8end_s code 0), recs, evs, f)
  else
  some ((⟨false, 0, 0⟩ : ResV), recs, evs, ({ f with line := 2 } : FrV))
 else
 if f.kind = 6 then
  if f.line = 3 then
   some ((⟨false, 0, 0⟩ : ResV), recs, evs, ({ f with line := 1 } : FrV))
  else
  if code = 1 then
   some ((r8end_s 1 value), recs, evs, f)
  else
  some ((⟨false, 0, 0⟩ : ResV), recs, evs, ({ f with line := 3 } : FrV))
 else
 if f.kind = 15 then
  some ((r8end_s code f.t), recs, evs, f)
 else
 if f.kind = 17 then
  (r8backwalk_s evs f code).bind fun r11 =>
  some (r11.1, recs, r11.2.1, r11.2.2)
 else
 if f.kind = 18 then
  if code = 3 then
   (eemit_s evs 19 f.a f.b 0 f.t).bind fun r14 =>
   some ((r8end_s 1 0), recs, r14, f)
  else
  some ((r8end_s 1 0), recs, evs, f)
 else
 if f.kind = 22 then
  bT (r8backdrain_s c f code value) fun r16 =>
  some (r16.1, recs, evs, r16.2)
 else
 if f.kind = 23 then
  bT (r8backtake_s f code value) fun r18 =>
  some (r18.1, recs, evs, r18.2)
 else
 if f.kind = 24 then
  (r8backrun_s c recs evs f code value).bind fun r20 =>
  some (r20.1, r20.2.1, r20.2.2.1, r20.2.2.2)
 else
 if f.kind = 25 then
  (r8backworker_s c evs f code value).bind fun r22 =>
  some ((⟨false, 0, 0⟩ : ResV), recs, r22.1, r22.2)
 else
 if f.kind = 26 then
  (r8backclient_s c recs evs f code value).bind fun r25 =>
  some (r25.1, r25.2.1, r25.2.2.1, r25.2.2.2)
 else
 some ((⟨false, 0, 0⟩ : ResV), recs, evs, f)
theorem r8back_ok {code : Int} {value : Int} {o : ResV × (List RecV) × (List Ev) × FrV} (hs : r8back_s c recs evs f code value = some o) (eb : Nat) (l : CfgAt) (pl : List (Option Addr × Nat)) (RA : Option Addr) (RC : Nat) (fb fo : Nat)  (B : Nat) (W : World)  : Fn_ Tryz.prog 88 #[vp eb 0, vp fb fo, vi code, vi value] B W [cP eb c l, cfgL c l pl, pts eb 19 [.slice RA recs.length RC], recsS RA RC recs, evsS eb 20 evs, frS fb fo f] (X := Unit) (fun x => .agg #[.bool (o.1.done), vi o.1.code, vi o.1.value]) (fun x => [cP eb c l, cfgL c l pl, pts eb 19 [.slice RA o.2.1.length RC], recsS RA RC o.2.1, evsS eb 20 o.2.2.1, frS fb fo o.2.2.2]) := by
 unfold r8back_s at hs
 refine fe4 Tryz.func88 115 rfl (fun F => ?_)
 refine q2 (rn (al [.bool false, zi, zi]) ?_)
 rintro b1
 refine q1 (cS (cS (ct_open pick6 ?_)))
 rintro ⟨A2, c2⟩
 refine cR (zp (mv m2) (zp (nc m0) (zp (fd 0 fo m0) (zq (ld fo 0 m0 e0 rfl) (q1 (cB (q2 (zp (eqL m0 .const) (zp (asg m0) (q1 (ci hs m0 (fun h3 hs => ?_) (fun h3 hs => ?_))))))))))))
 ·refine cS (cS (ct_cut (X := Unit) (fun _ => True) (fun _ => [(23, .bool (decide ((f.line = 2) ∨ (code = 3)))), (8, vp b1 0), (1, vp fb fo), (2, vi code)]) (fun _ => pts fb fo [vi f.kind, vi f.line, vi f.q.top, vi f.q.bottom, vi f.q.ring, vi f.q.cap, vi f.a, vi f.b, vi f.d, vi f.i, vi f.j, vi f.n, vi f.t, vu f.u, vu f.v, vu f.w, vu f.x, .slice A2 f.l.length c2] :: roS encInt 1 A2 c2 f.l :: pts b1 0 [.bool false, zi, zi] :: cP eb c l :: cfgL c l pl :: pts eb 19 [.slice RA recs.length RC] :: recsS RA RC recs :: evsS eb 20 evs :: [F]) ?_ (fun _ _ => (?_ : CT _ _ _ _ _ _ _ _ _))))
  ·refine cR (zp (mv m8) (zp (nc m0) (zp (fd 1 (fo + 1) m0) (zq (ld fo 1 m0 e0 rfl) (zp (eqL m0 .const) (zp (mv m0) (rt_case t0 t0 (fun h4 => ?_) (fun h4 => ?_))))))))
   ·exact zk rfl rfl e0 (zk rfl rfl e1 (zp (op_pick (b := true) m2 .const) (rN (et_cut () trivial (.cons e0 (by simp only [eq_true h4, ↓reduceIte, reduceCtorEq, bS]) (lc e15 (lc e17 (lc e18 .nil)))) Ent.refl))))
   exact zw (mv m15).q rfl rfl e0 (zw (eqL m0 .const).q rfl rfl e1 (zp (op_pick (b := false) m2 m0) (rN (et_cut () trivial (.cons e0 (by simp only [eq_false h4, ↓reduceIte, reduceCtorEq, bS]) (lc e15 (lc e17 (lc e18 .nil)))) Ent.refl))))
  refine ci hs m0 (fun h5 hs => ?_) (fun h5 hs => ?_)
  ·refine q2 (zp (mv m3) (zq (cq (.cons m0 (.cons .const .nil)) (r8end_ok (o := r8end_s code 0) rfl  _ _) pn) (rz (sta 0 m3 m0 t2) (q4 (tR (bR (tR (pkE (p1 pn) (tE ro_dup (pkE (p2 pn) (sf f ?_)))))))))))
   obtain rfl := sI hs
   exact fa e3 e2 (d2 (eP (p1 (p1 (p1 (p1 (p1 (p1 (p1 pn)))))))))
  refine cK (tT (cR (zp (mv m2) (zp (nc m0) (zp (fd 1 (fo + 1) m0) (rz (st1 fo w1 m0 .const t0) (rN (tB (tT (q2 (zp bz (rz (sta 0 m5 m0 t2) (q4 (pkE (p1 pn) (tE ro_dup (pkE (p2 pn) (sf ({ f with line := 2 } : FrV) ?_)))))))))))))))))
  obtain rfl := sI hs
  exact fa e5 e2 (d2 (eP (p1 (p1 (p1 (p1 (p1 (p1 (p1 pn)))))))))
 refine q2 (zp (eqL m2 .const) (zp (asg m0) (q1 (ci hs m0 (fun h6 hs => ?_) (fun h6 hs => ?_)))))
 ·refine cS (q2 (zp (mv m10) (zp (nc m0) (zp (fd 1 (fo + 1) m0) (zq (ld fo 1 m0 e0 rfl) (zp (eqL m0 .const) (q1 (ci hs m0 (fun h7 hs => ?_) (fun h7 hs => ?_)))))))))
  ·refine q2 (zp (mv m15) (zp (nc m0) (zp (fd 1 (fo + 1) m0) (rz (st1 fo w1 m0 .const t0) (q3 (zp bz (rz (sta 0 m17 m0 t2) (q4 (tR (bR (tR (pkE (p1 pn) (tE ro_dup (pkE (p2 pn) (sf ({ f with line := 1 } : FrV) ?_)))))))))))))))
   obtain rfl := sI hs
   exact fa e17 e2 (d2 (eP (p1 (p1 (p1 (p1 (p1 (p1 (p1 pn)))))))))
  refine cK (tT (cS (q2 (zp (mv m16) (zp (eqL m0 .const) (q1 (ci hs m0 (fun h8 hs => ?_) (fun h8 hs => ?_))))))))
  ·refine q2 (zp (mv m19) (zq (cq (.cons .const (.cons m0 .nil)) (r8end_ok (o := r8end_s 1 value) rfl  _ _) pn) (rz (sta 0 m17 m0 t2) (q4 (tR (bR (tR (pkE (p1 pn) (tE ro_dup (pkE (p2 pn) (sf f ?_)))))))))))
   obtain rfl := sI hs
   exact fa e17 e2 (d2 (eP (p1 (p1 (p1 (p1 (p1 (p1 (p1 pn)))))))))
  refine cK (tT (cR (zp (mv m17) (zp (nc m0) (zp (fd 1 (fo + 1) m0) (rz (st1 fo w1 m0 .const t0) (rN (tB (tT (q2 (zp bz (rz (sta 0 m19 m0 t2) (q4 (pkE (p1 pn) (tE ro_dup (pkE (p2 pn) (sf ({ f with line := 3 } : FrV) ?_)))))))))))))))))
  obtain rfl := sI hs
  exact fa e19 e2 (d2 (eP (p1 (p1 (p1 (p1 (p1 (p1 (p1 pn)))))))))
 refine q2 (zp (eqL m4 .const) (zp (asg m0) (q1 (ci hs m0 (fun h9 hs => ?_) (fun h9 hs => ?_)))))
 ·refine q2 (zp (mv m13) (zp (mv m13) (zp (nc m0) (zp (fd 12 (fo + 12) m0) (zq (ld fo 12 m0 e0 rfl) (zq (cq (.cons m4 (.cons m0 .nil)) (r8end_ok (o := r8end_s code f.t) rfl  _ _) pn) (rz (sta 0 m16 m0 t2) (q4 (bR (tR (pkE (p1 pn) (tE ro_dup (pkE (p2 pn) (sf f ?_))))))))))))))
  obtain rfl := sI hs
  exact fa e16 e2 (d2 (eP (p1 (p1 (p1 (p1 (p1 (p1 (p1 pn)))))))))
 refine q2 (zp (eqL m6 .const) (zp (asg m0) (q1 (ci hs m0 (fun h10 hs => ?_) (fun h10 hs => ?_)))))
 ·refine q2 (zp (mv m13) (zp (mv m15) (zp (mv m17) (pkR (p1 pn) (rE ro_dup (pkR (p2 pn) (rE (shut (N := itN frC FrV.l fb fo f) (A2, c2) rfl) ?_)))))))
  obtain ⟨r11, hr11, hs⟩ := bO_of hs
  refine ru (co (.cons m2 (.cons m1 (.cons m0 .nil))) (r8backwalk_ok hr11 eb fb fo _ _) (p7 (p0 pn))) (rz (sta 0 m16 m0 t3) (q4 (bR (tR ?_))))
  obtain rfl := sI hs
  exact fa e16 e3 (d2 (eP (p2 (p2 (p2 (p2 (p2 (p2 pn))))))))
 refine q2 (zp (eqL m8 .const) (zp (asg m0) (q1 (ci hs m0 (fun h12 hs => ?_) (fun h12 hs => ?_)))))
 ·refine cS (q2 (zp (mv m17) (zp (eqL m0 .const) (q1 (ci hs m0 (fun h13 hs => ?_) (fun h13 hs => ?_))))))
  ·refine ca 14 ?_
   refine zt 0 rfl (mv m17) ?_
   refine zt 1 rfl (mv m19) ?_
   refine zt 2 rfl (nc m0) ?_
   refine zt 3 rfl (fd 6 (fo + 6) m0) ?_
   refine zt 5 rfl (mv (mU m2)) ?_
   refine zt 6 rfl (nc m0) ?_
   refine zt 7 rfl (fd 7 (fo + 7) m0) ?_
   refine zt 9 rfl (mv (mU m5)) ?_
   refine zt 10 rfl (nc m0) ?_
   refine zt 11 rfl (fd 12 (fo + 12) m0) ?_
   refine at_group [4, 8, 12] 1 rfl (by kernel_rfl) rfl ?_
   refine yq (ld fo 6 m6 e0 rfl) (yq (ld fo 7 m4 e0 rfl) (yq (ld fo 12 m2 e0 rfl) (qN ?_)))
   obtain ⟨r14, hr14, hs⟩ := bO_of hs
   refine tu 13 rfl (co (.cons m12 (.cons .const (.cons m2 (.cons m1 (.cons .const (.cons m0 .nil)))))) (eemit_ok hr14 eb _ _) (p7 pn)) ?_
   refine zz ?_
   refine tT (q2 (zq (cq (.cons .const (.cons .const .nil)) (r8end_ok (o := r8end_s 1 0) rfl  _ _) pn) (rz (sta 0 (mU m11) m0 t3) (q4 (bR (tR (pkE (p2 pn) (tE ro_dup (pkE (p3 pn) (sf f ?_))))))))))
   obtain rfl := sI hs
   exact fa (eU e11) e3 (d2 (eP (p1 (p2 (p2 (p2 (p2 (p2 (p1 pn)))))))))
  refine cK (tT (q2 (zq (cq (.cons .const (.cons .const .nil)) (r8end_ok (o := r8end_s 1 0) rfl  _ _) pn) (rz (sta 0 m17 m0 t2) (q4 (bR (tR (pkE (p1 pn) (tE ro_dup (pkE (p2 pn) (sf f ?_)))))))))))
  obtain rfl := sI hs
  exact fa e17 e2 (d2 (eP (p1 (p1 (p1 (p1 (p1 (p1 (p1 pn)))))))))
 refine q2 (zp (eqL m10 .const) (zp (asg m0) (q1 (ci hs m0 (fun h15 hs => ?_) (fun h15 hs => ?_)))))
 ·refine q2 (zp (mv m17) (zp (mv m19) (zp (mv (mU m1)) (zp (mv (mU m3)) (pkR (p1 pn) (rE ro_dup (pkR (p2 pn) (rE (shut (N := itN frC FrV.l fb fo f) (A2, c2) rfl) ?_))))))))
  obtain ⟨r16, hr16, hs⟩ := bF hs
  refine ru (co (.cons m3 (.cons m2 (.cons m1 (.cons m0 .nil)))) (r8backdrain_ok hr16 eb l fb fo _ _) (p3 (p0 pn))) (rz (sta 0 (mU m1) m0 t3) (q4 (bR (tR ?_))))
  obtain rfl := sI hs
  exact fa (eU e1) e3 (d2 (eP (p2 (p2 (p0 (p1 (p1 (p1 (p1 pn)))))))))
 refine q2 (zp (eqL m12 .const) (zp (asg m0) (q1 (ci hs m0 (fun h17 hs => ?_) (fun h17 hs => ?_)))))
 ·refine q2 (zp (mv (mU m0)) (zp (mv (mU m2)) (zp (mv (mU m4)) (pkR (p1 pn) (rE ro_dup (pkR (p2 pn) (rE (shut (N := itN frC FrV.l fb fo f) (A2, c2) rfl) ?_)))))))
  obtain ⟨r18, hr18, hs⟩ := bF hs
  refine ru (co (.cons m2 (.cons m1 (.cons m0 .nil))) (r8backtake_ok hr18 fb fo _ _) (p0 pn)) (rz (sta 0 (mU m2) m0 t2) (q4 (bR (tR ?_))))
  obtain rfl := sI hs
  exact fa (eU e2) e2 (d2 (eP (p1 (p1 (p1 (p1 (p1 (p1 (p1 pn)))))))))
 refine q2 (zp (eqL m14 .const) (zp (asg m0) (q1 (ci hs m0 (fun h19 hs => ?_) (fun h19 hs => ?_)))))
 ·refine q2 (zp (mv (mU m1)) (zp (mv (mU m3)) (zp (mv (mU m5)) (zp (mv (mU m7)) (pkR (p1 pn) (rE ro_dup (pkR (p2 pn) (rE (shut (N := itN frC FrV.l fb fo f) (A2, c2) rfl) ?_))))))))
  obtain ⟨r20, hr20, hs⟩ := bO_of hs
  refine ru (co (.cons m3 (.cons m2 (.cons m1 (.cons m0 .nil)))) (r8backrun_ok hr20 eb l pl RA RC fb fo _ _) (p3 (p3 (p3 (p3 (p3 (p0 pn))))))) (rz (sta 0 (mU m5) m0 t7) (q4 (bR (tR ?_))))
  obtain rfl := sI hs
  exact fa (eU e5) e7 (d2 (eP (p6 (p6 pn))))
 refine q2 (zp (eqL m16 .const) (zp (asg m0) (q1 (ci hs m0 (fun h21 hs => ?_) (fun h21 hs => ?_)))))
 ·refine cR (zp (mv (mU m3)) (zp (mv (mU m5)) (zp (mv (mU m7)) (zp (mv (mU m9)) (pkR (p1 pn) (rE ro_dup (pkR (p2 pn) (rE (shut (N := itN frC FrV.l fb fo f) (A2, c2) rfl) ?_))))))))
  obtain ⟨r22, hr22, hs⟩ := bO_of hs
  refine ru (co (.cons m3 (.cons m2 (.cons m1 (.cons m0 .nil)))) (r8backworker_ok hr22 eb l fb fo _ _) (p3 (p6 (p0 pn)))) (rN (tB (tT (cS (ct_open pick2 ?_)))))
  rintro ⟨A23, c23⟩
  refine cR (zp bz (rz (sta 0 (mU m8) m0 t5) (q4 (pkE (p1 pn) (tE ro_dup (pkE (p2 pn) (sf r22.2 ?_)))))))
  obtain rfl := sI hs
  exact fa (eU e8) e5 (d3 (eP (p1 (p3 (p3 (p1 (p2 (p2 (p2 (p1 pn))))))))))
 refine q2 (zp (eqL m18 .const) (zp (asg m0) (q1 (ci hs m0 (fun h24 hs => ?_) (fun h24 hs => ?_)))))
 ·refine q2 (zp (mv (mU m5)) (zp (mv (mU m7)) (zp (mv (mU m9)) (zp (mv (mU m11)) (pkR (p1 pn) (rE ro_dup (pkR (p2 pn) (rE (shut (N := itN frC FrV.l fb fo f) (A2, c2) rfl) ?_))))))))
  obtain ⟨r25, hr25, hs⟩ := bO_of hs
  refine ru (co (.cons m3 (.cons m2 (.cons m1 (.cons m0 .nil)))) (r8backclient_ok hr25 eb l pl RA RC fb fo _ _) (p3 (p3 (p3 (p3 (p3 (p0 pn))))))) (rz (sta 0 (mU m9) m0 t7) (q4 (bR (tR ?_))))
  obtain rfl := sI hs
  exact fa (eU e9) e7 (d2 (eP (p6 (p6 pn))))
 refine cK (tB (tT (q2 (zp bz (rz (sta 0 (mU m5) m0 t2) (q4 (pkE (p1 pn) (tE ro_dup (pkE (p2 pn) (sf f ?_))))))))))
 obtain rfl := sI hs
 exact fa (eU e5) e2 (d2 (eP (p1 (p1 (p1 (p1 (p1 (p1 (p1 pn)))))))))
end Go.Proofs.YtpbkelpokpglaaaGreat
