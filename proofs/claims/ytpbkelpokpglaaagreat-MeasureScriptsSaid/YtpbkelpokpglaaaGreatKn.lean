/- The reference, function by function: deques. -/
import Derived.Test.YtpbkelpokpglaaaGreatKm
import Derived.Test.YtpbkelpokpglaaaGreatKk
import Derived.Test.YtpbkelpokpglaaaGreatRows
set_option linter.all false
namespace Go.Proofs.YtpbkelpokpglaaaGreat
open Go Go.RowKit
set_option maxRecDepth 100000
set_option maxHeartbeats 2000000
variable {c : Cfg} {m : MemV} {now draw : Int} {recs : List RecV} {evs : List Ev} {f : FrV}
def r8push_s (m : MemV) (f : FrV) : Option (ResV × MemV × FrV) :=
 if f.line = 1 then
  bT (eload_s m f.q.bottom) fun r4 =>
  some ((⟨false, 0, 0⟩ : ResV), r4.2, ({ f with line := (wi (f.line + 1)), u := r4.1 } : FrV))
 else
 if f.line = 2 then
  bT (eload_s m f.q.top) fun r6 =>
  if f.q.cap ≤ (r8size_s f.u r6.1) then
   some ((r8end_s 3 0), r6.2, ({ f with v := r6.1 } : FrV))
  else
  some ((⟨false, 0, 0⟩ : ResV), r6.2, ({ f with line := (wi (f.line + 1)), v := r6.1 } : FrV))
 else
 if f.line = 3 then
  (r8ring_s f.q f.u).bind fun r9 =>
  bT (estore_s m r9 (wu f.a)) fun r10 =>
  some ((⟨false, 0, 0⟩ : ResV), r10, ({ f with line := (wi (f.line + 1)) } : FrV))
 else
 bT (estore_s m f.q.bottom (wu (f.u + 1))) fun r11 =>
 some ((r8end_s 0 0), r11, f)
theorem r8push_ok {o : ResV × MemV × FrV} (hs : r8push_s m f = some o) (eb : Nat) (fb fo : Nat)  (B : Nat) (W : World)  : Fn_ Tryz.prog 118 #[vp eb 0, vp fb fo] B W [memS eb 11 m, frS fb fo f] (X := Unit) (fun x => .agg #[.bool (o.1.done), vi o.1.code, vi o.1.value]) (fun x => [memS eb 11 o.2.1, frS fb fo o.2.2]) := by
 unfold r8push_s at hs
 refine fe2 Tryz.func118 88 rfl (fun F => ?_)
 refine q2 (rn (al [.bool false, zi, zi]) ?_)
 rintro b1
 refine q1 (cS (cS (ct_open pick2 ?_)))
 rintro ⟨A2, c2⟩
 refine cR (zp (mv m2) (zp (nc m0) (zp (fd 1 (fo + 1) m0) (zq (ld fo 1 m0 e0 rfl) (q1 (cB (q2 (zp (eqL m0 .const) (zp (asg m0) (q1 (ci hs m0 (fun h3 hs => ?_) (fun h3 hs => ?_))))))))))))
 ·refine cR (zp (mv m8) (zp (mv m8) (zp (mv m10) (zp (nc m0) (zp (fd 2 (fo + 2) m0) (zp (fd 1 (fo + 3) m0) (zq (ld fo 3 m0 e0 rfl) ?_)))))))
  obtain ⟨r4, hr4, hs⟩ := bF hs
  refine ru (co (.cons m5 (.cons m0 .nil)) (eload_ok hr4 eb _ _) (p3 pn)) (zp (nc m7) (zp (fd 13 (fo + 13) m0) (rz (st1 fo w13 m0 m2 t1) (rN (tB (tT (q2 (zp (mv m18) (zp (nc m0) (zp (fd 1 (fo + 1) m0) (zq (ld fo 1 m0 e1 rfl) (zp (aI m0 .const) (zp (nc m4) (zp (fd 1 (fo + 1) m0) (rz (st1 fo w1 m0 m2 t1) (q3 (zp bz (rz (sta 0 (mU m4) m0 t3) (q4 (pkE (p2 pn) (tE ro_dup (pkE (p3 pn) (sf ({ f with line := (wi (f.line + 1)), u := r4.1 } : FrV) ?_)))))))))))))))))))))))
  obtain rfl := sI hs
  exact fa (eU e4) e3 (d2 (eP (p1 (p2 (p1 pn)))))
 refine q2 (zp (eqL m2 .const) (zp (asg m0) (q1 (ci hs m0 (fun h5 hs => ?_) (fun h5 hs => ?_)))))
 ·refine q2 (zp (mv m10) (zp (mv m10) (zp (mv m12) (zp (nc m0) (zp (fd 2 (fo + 2) m0) (zp (fd 0 (fo + 2) m0) (zq (ld fo 2 m0 e0 rfl) ?_)))))))
  obtain ⟨r6, hr6, hs⟩ := bF hs
  refine ru (co (.cons m5 (.cons m0 .nil)) (eload_ok hr6 eb _ _) (p3 pn)) (zp (nc m7) (zp (fd 14 (fo + 14) m0) (rz (st1 fo w14 m0 m2 t1) (q1 (cS (ct_draw (by kernel_rfl) (by kernel_rfl) ?_))))))
  refine yp (mv (mU m0)) (yp (nc m0) (yp (fd 13 (fo + 13) m0) (yq (ld fo 13 m0 e1 rfl) (yp (mv (mU m4)) (yp (nc m0) (yp (fd 14 (fo + 14) m0) (yq (ld fo 14 m0 e1 rfl) (yq (cq (.cons m4 (.cons m0 .nil)) (r8size_ok (o := r8size_s f.u r6.1) rfl  _ _) pn) (yp (mv (mU m9)) (yp (nc m0) (yp (fd 2 (fo + 2) m0) (yp (fd 3 (fo + 5) m0) (yq (ld fo 5 m0 e1 rfl) (yp (op_geq m5 m0) (qN (tT (ci hs m0 (fun h7 hs => ?_) (fun h7 hs => ?_))))))))))))))))))
  ·refine q2 (zq (cq (.cons .const (.cons .const .nil)) (r8end_ok (o := r8end_s 3 0) rfl  _ _) pn) (rz (sta 0 (mU m14) m0 t3) (q4 (bR (tR (pkE (p2 pn) (tE ro_dup (pkE (p3 pn) (sf ({ f with v := r6.1 } : FrV) ?_)))))))))
   obtain rfl := sI hs
   exact fa (eU e14) e3 (d2 (eP (p1 (p2 (p1 pn)))))
  refine cK (tB (tT (q2 (zp (mv (mU m15)) (zp (nc m0) (zp (fd 1 (fo + 1) m0) (zq (ld fo 1 m0 e1 rfl) (zp (aI m0 .const) (zp (nc m4) (zp (fd 1 (fo + 1) m0) (rz (st1 fo w1 m0 m2 t1) (q3 (zp bz (rz (sta 0 (mU (mU m1)) m0 t3) (q4 (pkE (p2 pn) (tE ro_dup (pkE (p3 pn) (sf ({ f with line := (wi (f.line + 1)), v := r6.1 } : FrV) ?_)))))))))))))))))))
  obtain rfl := sI hs
  exact fa (eU (eU e1)) e3 (d2 (eP (p1 (p2 (p1 pn)))))
 refine q2 (zp (eqL m4 .const) (zp (asg m0) (q1 (ci hs m0 (fun h8 hs => ?_) (fun h8 hs => ?_)))))
 ·refine ca 16 ?_
  refine zt 0 rfl (mv m11) ?_
  refine zt 1 rfl (mv m13) ?_
  refine zt 2 rfl (nc m0) ?_
  refine zt 3 rfl (fd 2 (fo + 2) m0) ?_
  refine zt 5 rfl (mv m16) ?_
  refine zt 6 rfl (nc m0) ?_
  refine zt 7 rfl (fd 13 (fo + 13) m0) ?_
  refine zt 10 rfl (mv m19) ?_
  refine zt 11 rfl (nc m0) ?_
  refine zt 12 rfl (fd 6 (fo + 6) m0) ?_
  refine at_group [4, 8, 9, 13, 14] 1 rfl (by kernel_rfl) rfl ?_
  refine yq (oq_loadA (o := fo) (i := 2) (k := 4) (us := [vi f.q.top, vi f.q.bottom, vi f.q.ring, vi f.q.cap]) m6 e0 (by omega) (by kernel_rfl) rfl rfl) (yq (ld fo 13 m4 e0 rfl) ?_)
  obtain ⟨r9, hr9, hs⟩ := bO_of hs
  refine yq (cq (.cons m1 (.cons m0 .nil)) (r8ring_ok hr9  _ _) pn) (yq (ld fo 6 m3 e0 rfl) (yp (op_convU m0 Tryz.underlying3 Tryz.underlying50) (qN ?_)))
  obtain ⟨r10, hr10, hs⟩ := bF hs
  refine tu 15 rfl (co (.cons m14 (.cons m2 (.cons m0 .nil))) (estore_ok hr10 eb _ _) (p3 pn)) ?_
  refine zz ?_
  refine tB (tT (q2 (zp (mv (mU m8)) (zp (nc m0) (zp (fd 1 (fo + 1) m0) (zq (ld fo 1 m0 e1 rfl) (zp (aI m0 .const) (zp (nc m4) (zp (fd 1 (fo + 1) m0) (rz (st1 fo w1 m0 m2 t1) (q3 (zp bz (rz (sta 0 (mU m14) m0 t3) (q4 (pkE (p2 pn) (tE ro_dup (pkE (p3 pn) (sf ({ f with line := (wi (f.line + 1)) } : FrV) ?_))))))))))))))))))
  obtain rfl := sI hs
  exact fa (eU e14) e3 (d2 (eP (p1 (p2 (p1 pn)))))
 refine cS (ca 12 ?_)
 refine zt 0 rfl (mv m11) ?_
 refine zt 1 rfl (mv m13) ?_
 refine zt 2 rfl (nc m0) ?_
 refine zt 3 rfl (fd 2 (fo + 2) m0) ?_
 refine zt 4 rfl (fd 1 (fo + 3) m0) ?_
 refine zt 6 rfl (mv m17) ?_
 refine zt 7 rfl (nc m0) ?_
 refine zt 8 rfl (fd 13 (fo + 13) m0) ?_
 refine at_group [5, 9, 10] 1 rfl (by kernel_rfl) rfl ?_
 refine yq (ld fo 3 m3 e0 rfl) (yq (ld fo 13 m1 e0 rfl) (yp (op_addU m0 .const) (qN ?_)))
 obtain ⟨r11, hr11, hs⟩ := bF hs
 refine tu 11 rfl (co (.cons m10 (.cons m2 (.cons m0 .nil))) (estore_ok hr11 eb _ _) (p3 pn)) ?_
 refine zz ?_
 refine tT (q2 (zq (cq (.cons .const (.cons .const .nil)) (r8end_ok (o := r8end_s 0 0) rfl  _ _) pn) (rz (sta 0 (mU m3) m0 t3) (q4 (bR (tR (pkE (p2 pn) (tE ro_dup (pkE (p3 pn) (sf f ?_))))))))))
 obtain rfl := sI hs
 exact fa (eU e3) e3 (d2 (eP (p1 (p2 (p1 pn)))))
def r8pop_s (m : MemV) (f : FrV) : Option (ResV × MemV × FrV) :=
 if f.line = 1 then
  bT (eload_s m f.q.bottom) fun r4 =>
  some ((⟨false, 0, 0⟩ : ResV), r4.2, ({ f with line := (wi (f.line + 1)), u := r4.1 } : FrV))
 else
 if f.line = 2 then
  bT (eload_s m f.q.top) fun r6 =>
  if (r8size_s f.u r6.1) ≤ 0 then
   some ((r8end_s 2 0), r6.2, ({ f with v := r6.1 } : FrV))
  else
  some ((⟨false, 0, 0⟩ : ResV), r6.2, ({ f with line := (wi (f.line + 1)), v := r6.1 } : FrV))
 else
 if f.line = 3 then
  bT (estore_s m f.q.bottom (wu (f.u - 1))) fun r9 =>
  some ((⟨false, 0, 0⟩ : ResV), r9, ({ f with line := (wi (f.line + 1)) } : FrV))
 else
 if f.line = 4 then
  bT (eload_s m f.q.top) fun r11 =>
  if (r8size_s (wu (f.u - 1)) r11.1) = 0 then
   some ((⟨false, 0, 0⟩ : ResV), r11.2, ({ f with line := 6, v := r11.1 } : FrV))
  else
  if (r8size_s (wu (f.u - 1)) r11.1) < 0 then
   some ((⟨false, 0, 0⟩ : ResV), r11.2, ({ f with line := 9, v := r11.1 } : FrV))
  else
  some ((⟨false, 0, 0⟩ : ResV), r11.2, ({ f with line := (wi (f.line + 1)), v := r11.1 } : FrV))
 else
 if (f.line = 5) ∨ (f.line = 8) then
  (r8ring_s f.q (wu (f.u - 1))).bind fun r16 =>
  bT (eload_s m r16) fun r17 =>
  some ((r8end_s 1 (wi r17.1)), r17.2, f)
 else
 if f.line = 6 then
  bT (ecas_s m f.q.top f.v (wu (f.v + 1))) fun r19 =>
  if (!r19.1) = true then
   some ((⟨false, 0, 0⟩ : ResV), r19.2, ({ f with line := 9 } : FrV))
  else
  some ((⟨false, 0, 0⟩ : ResV), r19.2, ({ f with line := (wi (f.line + 1)) } : FrV))
 else
 if f.line = 7 then
  bT (estore_s m f.q.bottom f.u) fun r22 =>
  some ((⟨false, 0, 0⟩ : ResV), r22, ({ f with line := (wi (f.line + 1)) } : FrV))
 else
 bT (estore_s m f.q.bottom f.u) fun r23 =>
 some ((r8end_s 2 0), r23, f)
theorem r8pop_ok {o : ResV × MemV × FrV} (hs : r8pop_s m f = some o) (eb : Nat) (fb fo : Nat)  (B : Nat) (W : World)  : Fn_ Tryz.prog 119 #[vp eb 0, vp fb fo] B W [memS eb 11 m, frS fb fo f] (X := Unit) (fun x => .agg #[.bool (o.1.done), vi o.1.code, vi o.1.value]) (fun x => [memS eb 11 o.2.1, frS fb fo o.2.2]) := by
 unfold r8pop_s at hs
 refine fe2 Tryz.func119 159 rfl (fun F => ?_)
 refine q2 (rn (al [.bool false, zi, zi]) ?_)
 rintro b1
 refine q1 (cS (ct_open pick2 ?_))
 rintro ⟨A2, c2⟩
 refine cR (zp (mv m2) (zp (nc m0) (zp (fd 1 (fo + 1) m0) (zq (ld fo 1 m0 e0 rfl) (zp (aI m0 .const) (zp (asg m0) (q1 (cS (q2 (zp (mv m8) (zp (nc m0) (zp (fd 1 (fo + 1) m0) (zq (ld fo 1 m0 e0 rfl) (q1 (cB (q2 (zp (eqL m0 .const) (zp (asg m0) (q1 (ci hs m0 (fun h3 hs => ?_) (fun h3 hs => ?_)))))))))))))))))))))
 ·refine cR (zp (mv m14) (zp (mv m14) (zp (mv m16) (zp (nc m0) (zp (fd 2 (fo + 2) m0) (zp (fd 1 (fo + 3) m0) (zq (ld fo 3 m0 e0 rfl) ?_)))))))
  obtain ⟨r4, hr4, hs⟩ := bF hs
  refine ru (co (.cons m5 (.cons m0 .nil)) (eload_ok hr4 eb _ _) (p3 pn)) (zp (nc m7) (zp (fd 13 (fo + 13) m0) (rz (st1 fo w13 m0 m2 t1) (rN (tB (tT (q2 (zp (mv (mU m4)) (zp (mv m17) (zp (nc m1) (zp (fd 1 (fo + 1) m0) (rz (st1 fo w1 m0 m2 t1) (q3 (zp bz (rz (sta 0 (mU m7) m0 t3) (q4 (pkE (p2 pn) (tE ro_dup (pkE (p3 pn) (sf ({ f with line := (wi (f.line + 1)), u := r4.1 } : FrV) ?_))))))))))))))))))))
  obtain rfl := sI hs
  exact fa (eU e7) e3 (d2 (eP (p1 (p2 (p1 pn)))))
 refine q2 (zp (eqL m2 .const) (zp (asg m0) (q1 (ci hs m0 (fun h5 hs => ?_) (fun h5 hs => ?_)))))
 ·refine q2 (zp (mv m16) (zp (mv m16) (zp (mv m18) (zp (nc m0) (zp (fd 2 (fo + 2) m0) (zp (fd 0 (fo + 2) m0) (zq (ld fo 2 m0 e0 rfl) ?_)))))))
  obtain ⟨r6, hr6, hs⟩ := bF hs
  refine ru (co (.cons m5 (.cons m0 .nil)) (eload_ok hr6 eb _ _) (p3 pn)) (zp (nc m7) (zp (fd 14 (fo + 14) m0) (rz (st1 fo w14 m0 m2 t1) (q1 (cS (ct_draw (by kernel_rfl) (by kernel_rfl) ?_))))))
  refine yp (mv (mU m6)) (yp (nc m0) (yp (fd 13 (fo + 13) m0) (yq (ld fo 13 m0 e1 rfl) (yp (mv (mU m10)) (yp (nc m0) (yp (fd 14 (fo + 14) m0) (yq (ld fo 14 m0 e1 rfl) (yq (cq (.cons m4 (.cons m0 .nil)) (r8size_ok (o := r8size_s f.u r6.1) rfl  _ _) pn) (yp (op_leq m0 .const) (qN (tT (ci hs m0 (fun h7 hs => ?_) (fun h7 hs => ?_)))))))))))))
  ·refine q2 (zq (cq (.cons .const (.cons .const .nil)) (r8end_ok (o := r8end_s 2 0) rfl  _ _) pn) (rz (sta 0 (mU m15) m0 t3) (q4 (bR (tR (pkE (p2 pn) (tE ro_dup (pkE (p3 pn) (sf ({ f with v := r6.1 } : FrV) ?_)))))))))
   obtain rfl := sI hs
   exact fa (eU e15) e3 (d2 (eP (p1 (p2 (p1 pn)))))
  refine cK (tB (tT (q2 (zp (mv (mU m16)) (zp (mv (mU m9)) (zp (nc m1) (zp (fd 1 (fo + 1) m0) (rz (st1 fo w1 m0 m2 t1) (q3 (zp bz (rz (sta 0 (mU m19) m0 t3) (q4 (pkE (p2 pn) (tE ro_dup (pkE (p3 pn) (sf ({ f with line := (wi (f.line + 1)), v := r6.1 } : FrV) ?_))))))))))))))))
  obtain rfl := sI hs
  exact fa (eU e19) e3 (d2 (eP (p1 (p2 (p1 pn)))))
 refine q2 (zp (eqL m4 .const) (zp (asg m0) (q1 (ci hs m0 (fun h8 hs => ?_) (fun h8 hs => ?_)))))
 ·refine ca 12 ?_
  refine zt 0 rfl (mv m17) ?_
  refine zt 1 rfl (mv m19) ?_
  refine zt 2 rfl (nc m0) ?_
  refine zt 3 rfl (fd 2 (fo + 2) m0) ?_
  refine zt 4 rfl (fd 1 (fo + 3) m0) ?_
  refine zt 6 rfl (mv (mU m3)) ?_
  refine zt 7 rfl (nc m0) ?_
  refine zt 8 rfl (fd 13 (fo + 13) m0) ?_
  refine at_group [5, 9, 10] 1 rfl (by kernel_rfl) rfl ?_
  refine yq (ld fo 3 m3 e0 rfl) (yq (ld fo 13 m1 e0 rfl) (yp (op_subU m0 .const) (qN ?_)))
  obtain ⟨r9, hr9, hs⟩ := bF hs
  refine tu 11 rfl (co (.cons m10 (.cons m2 (.cons m0 .nil))) (estore_ok hr9 eb _ _) (p3 pn)) ?_
  refine zz ?_
  refine tB (tT (q2 (zp (mv (mU m10)) (zp (mv (mU m3)) (zp (nc m1) (zp (fd 1 (fo + 1) m0) (rz (st1 fo w1 m0 m2 t1) (q3 (zp bz (rz (sta 0 (mU m13) m0 t3) (q4 (pkE (p2 pn) (tE ro_dup (pkE (p3 pn) (sf ({ f with line := (wi (f.line + 1)) } : FrV) ?_)))))))))))))))
  obtain rfl := sI hs
  exact fa (eU e13) e3 (d2 (eP (p1 (p2 (p1 pn)))))
 refine q2 (zp (eqL m6 .const) (zp (asg m0) (q1 (ci hs m0 (fun h10 hs => ?_) (fun h10 hs => ?_)))))
 ·refine q2 (zp (mv (mU m0)) (zp (mv (mU m0)) (zp (mv (mU m2)) (zp (nc m0) (zp (fd 2 (fo + 2) m0) (zp (fd 0 (fo + 2) m0) (zq (ld fo 2 m0 e0 rfl) ?_)))))))
  obtain ⟨r11, hr11, hs⟩ := bF hs
  refine ru (co (.cons m5 (.cons m0 .nil)) (eload_ok hr11 eb _ _) (p3 pn)) (zp (nc m7) (zp (fd 14 (fo + 14) m0) (rz (st1 fo w14 m0 m2 t1) (q1 (cS (ct_draw (by kernel_rfl) (by kernel_rfl) ?_))))))
  refine yp (mv (mU m10)) (yp (nc m0) (yp (fd 13 (fo + 13) m0) (yq (ld fo 13 m0 e1 rfl) (yp (op_subU m0 .const) (yp (mv (mU m15)) (yp (nc m0) (yp (fd 14 (fo + 14) m0) (yq (ld fo 14 m0 e1 rfl) (yq (cq (.cons m4 (.cons m0 .nil)) (r8size_ok (o := r8size_s (wu (f.u - 1)) r11.1) rfl  _ _) pn) (yp (asg m0) (qN (tT (cB (q2 (zp (mv m0) (zp (eqL m0 .const) (zp (asg m0) (q1 (ci hs m0 (fun h12 hs => ?_) (fun h12 hs => ?_))))))))))))))))))))
  ·refine cR (zo (asg .const) (pickU pick16) (rN (tB (tB (tT (q2 (zp (mv (mU (mU m4))) (zp (mv m1) (zp (nc m1) (zp (fd 1 (fo + 1) m0) (rz (st1 fo w1 m0 m2 t1) (q3 (zp bz (rz (sta 0 (mU (mU m7)) m0 t3) (q4 (pkE (p2 pn) (tE ro_dup (pkE (p3 pn) (sf ({ f with line := 6, v := r11.1 } : FrV) ?_)))))))))))))))))))
   obtain rfl := sI hs
   exact fa (eU (eU e7)) e3 (d2 (eP (p1 (p2 (p1 pn)))))
  refine q2 (zp (mv m3) (zp (op_lss m0 .const) (zp (asg m0) (q1 (ci hs m0 (fun h13 hs => ?_) (fun h13 hs => ?_))))))
  ·refine cR (zo (asg .const) (pickU pick19) (rN (tB (tB (tT (q2 (zp (mv (mU (mU m7))) (zp (mv m1) (zp (nc m1) (zp (fd 1 (fo + 1) m0) (rz (st1 fo w1 m0 m2 t1) (q3 (zp bz (rz (sta 0 (mU (mU m10)) m0 t3) (q4 (pkE (p2 pn) (tE ro_dup (pkE (p3 pn) (sf ({ f with line := 9, v := r11.1 } : FrV) ?_)))))))))))))))))))
   obtain rfl := sI hs
   exact fa (eU (eU e10)) e3 (d2 (eP (p1 (p2 (p1 pn)))))
  refine cK (tB (tB (tT (q2 (zp (mv (mU (mU m7))) (zp (mv (mU (mU m0))) (zp (nc m1) (zp (fd 1 (fo + 1) m0) (rz (st1 fo w1 m0 m2 t1) (q3 (zp bz (rz (sta 0 (mU (mU m10)) m0 t3) (q4 (pkE (p2 pn) (tE ro_dup (pkE (p3 pn) (sf ({ f with line := (wi (f.line + 1)), v := r11.1 } : FrV) ?_)))))))))))))))))
  obtain rfl := sI hs
  exact fa (eU (eU e10)) e3 (d2 (eP (p1 (p2 (p1 pn)))))
 refine cS (q2 (zp (eqL m8 .const) (zp (asg m0) (q1 (ct_cut (X := Unit) (fun _ => True) (fun _ => [(105, .bool (decide ((f.line = 5) ∨ (f.line = 8)))), (15, vi f.line), (5, vi ((wi (f.line + 1)))), (4, vp b1 0), (0, vp eb 0), (1, vp fb fo)]) (fun _ => pts fb fo [vi f.kind, vi f.line, vi f.q.top, vi f.q.bottom, vi f.q.ring, vi f.q.cap, vi f.a, vi f.b, vi f.d, vi f.i, vi f.j, vi f.n, vi f.t, vu f.u, vu f.v, vu f.w, vu f.x, .slice A2 f.l.length c2] :: roS encInt 1 A2 c2 f.l :: pts b1 0 [.bool false, zi, zi] :: memS eb 11 m :: [F]) ?_ (fun _ _ => (?_ : CT _ _ _ _ _ _ _ _ _)))))))
 ·refine ct_if m0 (fun h14 => ?_) (fun h14 => ?_)
  ·exact cK (et_cut () trivial (.cons e0 (by simp only [eq_true h14, ↓reduceIte, reduceCtorEq, bS]) (lc e10 (lc e14 (lc (eU e0) (lc (eU e1) (lc (eU e2) .nil)))))) Ent.refl)
  exact cR (zp (eqL m10 .const) (zo (asg m0) pick1 (rN (et_cut () trivial (.cons e0 (by simp only [eq_false h14, ↓reduceIte, reduceCtorEq, bS]) (lc e11 (lc e15 (lc (eU e1) (lc (eU e2) (lc (eU e3) .nil)))))) Ent.refl))))
 refine ci hs m0 (fun h15 hs => ?_) (fun h15 hs => ?_)
 ·refine cS (ca 15 ?_)
  refine zt 0 rfl (mv m4) ?_
  refine zt 1 rfl (mv m6) ?_
  refine zt 2 rfl (nc m0) ?_
  refine zt 3 rfl (fd 2 (fo + 2) m0) ?_
  refine zt 5 rfl (mv m9) ?_
  refine zt 6 rfl (nc m0) ?_
  refine zt 7 rfl (fd 13 (fo + 13) m0) ?_
  refine at_group [4, 8, 9, 10] 4 rfl (by kernel_rfl) rfl ?_
  refine yq (oq_loadA (o := fo) (i := 2) (k := 4) (us := [vi f.q.top, vi f.q.bottom, vi f.q.ring, vi f.q.cap]) m3 e0 (by omega) (by kernel_rfl) rfl rfl) (yq (ld fo 13 m1 e0 rfl) (yp (op_subU m0 .const) ?_))
  obtain ⟨r16, hr16, hs⟩ := bO_of hs
  refine yq (cq (.cons m2 (.cons m0 .nil)) (r8ring_ok hr16  _ _) pn) (qN ?_)
  obtain ⟨r17, hr17, hs⟩ := bF hs
  refine tu 11 rfl (co (.cons m10 (.cons m0 .nil)) (eload_ok hr17 eb _ _) (p3 pn)) ?_
  refine zt 12 rfl (op_convI m0 Tryz.underlying50 Tryz.underlying3) ?_
  refine za 13 rfl (cq (.cons .const (.cons m0 .nil)) (r8end_ok (o := r8end_s 1 (wi r17.1)) rfl  _ _) pn) ?_
  refine tz 14 rfl (sta 0 m17 m0 t3) ?_
  refine zz ?_
  refine tT (cQ (bR (tR (pkE (p2 pn) (tE ro_dup (pkE (p3 pn) (sf f ?_)))))))
  obtain rfl := sI hs
  exact fa e17 e3 (d2 (eP (p1 (p2 (p1 pn)))))
 refine q2 (zp (eqL m1 .const) (zp (asg m0) (q1 (ci hs m0 (fun h18 hs => ?_) (fun h18 hs => ?_)))))
 ·refine cS (ca 17 ?_)
  refine zt 0 rfl (mv m6) ?_
  refine zt 1 rfl (mv m8) ?_
  refine zt 2 rfl (nc m0) ?_
  refine zt 3 rfl (fd 2 (fo + 2) m0) ?_
  refine zt 4 rfl (fd 0 (fo + 2) m0) ?_
  refine zt 6 rfl (mv m12) ?_
  refine zt 7 rfl (nc m0) ?_
  refine zt 8 rfl (fd 14 (fo + 14) m0) ?_
  refine zt 10 rfl (mv m15) ?_
  refine zt 11 rfl (nc m0) ?_
  refine zt 12 rfl (fd 14 (fo + 14) m0) ?_
  refine at_group [5, 9, 13, 14] 2 rfl (by kernel_rfl) rfl ?_
  refine yq (ld fo 2 m6 e0 rfl) (yq (ld fo 14 m4 e0 rfl) (yq (ld fo 14 m2 e0 rfl) (yp (op_addU m0 .const) (qN ?_))))
  obtain ⟨r19, hr19, hs⟩ := bF hs
  refine tu 15 rfl (co (.cons m14 (.cons m3 (.cons m2 (.cons m0 .nil)))) (ecas_ok hr19 eb _ _) (p3 pn)) ?_
  refine zt 16 rfl (op_notb m0) ?_
  refine zz ?_
  refine tT (cj hs m0 (fun h20 hs => ?_) (fun h20 hs => ?_))
  ·refine cR (zo (asg .const) (pickU pick1) (rN (tB (tT (q2 (zp (mv (mU m4)) (zp (mv m1) (zp (nc m1) (zp (fd 1 (fo + 1) m0) (rz (st1 fo w1 m0 m2 t1) (q3 (zp bz (rz (sta 0 (mU m7) m0 t3) (q4 (pkE (p2 pn) (tE ro_dup (pkE (p3 pn) (sf ({ f with line := 9 } : FrV) ?_))))))))))))))))))
   obtain rfl := sI hs
   exact fa (eU e7) e3 (d2 (eP (p1 (p2 (p1 pn)))))
  refine cK (tB (tT (q2 (zp (mv (mU m4)) (zp (mv (mU m2)) (zp (nc m1) (zp (fd 1 (fo + 1) m0) (rz (st1 fo w1 m0 m2 t1) (q3 (zp bz (rz (sta 0 (mU m7) m0 t3) (q4 (pkE (p2 pn) (tE ro_dup (pkE (p3 pn) (sf ({ f with line := (wi (f.line + 1)) } : FrV) ?_))))))))))))))))
  obtain rfl := sI hs
  exact fa (eU e7) e3 (d2 (eP (p1 (p2 (p1 pn)))))
 refine q2 (zp (eqL m3 .const) (zp (asg m0) (q1 (ci hs m0 (fun h21 hs => ?_) (fun h21 hs => ?_)))))
 ·refine ca 11 ?_
  refine zt 0 rfl (mv m8) ?_
  refine zt 1 rfl (mv m10) ?_
  refine zt 2 rfl (nc m0) ?_
  refine zt 3 rfl (fd 2 (fo + 2) m0) ?_
  refine zt 4 rfl (fd 1 (fo + 3) m0) ?_
  refine zt 6 rfl (mv m14) ?_
  refine zt 7 rfl (nc m0) ?_
  refine zt 8 rfl (fd 13 (fo + 13) m0) ?_
  refine at_group [5, 9] 1 rfl (by kernel_rfl) rfl ?_
  refine yq (ld fo 3 m3 e0 rfl) (yq (ld fo 13 m1 e0 rfl) (qN ?_))
  obtain ⟨r22, hr22, hs⟩ := bF hs
  refine tu 10 rfl (co (.cons m9 (.cons m1 (.cons m0 .nil))) (estore_ok hr22 eb _ _) (p3 pn)) ?_
  refine zz ?_
  refine tB (tT (q2 (zp (mv (mU m0)) (zp (mv m18) (zp (nc m1) (zp (fd 1 (fo + 1) m0) (rz (st1 fo w1 m0 m2 t1) (q3 (zp bz (rz (sta 0 (mU m3) m0 t3) (q4 (pkE (p2 pn) (tE ro_dup (pkE (p3 pn) (sf ({ f with line := (wi (f.line + 1)) } : FrV) ?_)))))))))))))))
  obtain rfl := sI hs
  exact fa (eU e3) e3 (d2 (eP (p1 (p2 (p1 pn)))))
 refine cS (ca 11 ?_)
 refine zt 0 rfl (mv m8) ?_
 refine zt 1 rfl (mv m10) ?_
 refine zt 2 rfl (nc m0) ?_
 refine zt 3 rfl (fd 2 (fo + 2) m0) ?_
 refine zt 4 rfl (fd 1 (fo + 3) m0) ?_
 refine zt 6 rfl (mv m14) ?_
 refine zt 7 rfl (nc m0) ?_
 refine zt 8 rfl (fd 13 (fo + 13) m0) ?_
 refine at_group [5, 9] 1 rfl (by kernel_rfl) rfl ?_
 refine yq (ld fo 3 m3 e0 rfl) (yq (ld fo 13 m1 e0 rfl) (qN ?_))
 obtain ⟨r23, hr23, hs⟩ := bF hs
 refine tu 10 rfl (co (.cons m9 (.cons m1 (.cons m0 .nil))) (estore_ok hr23 eb _ _) (p3 pn)) ?_
 refine zz ?_
 refine tT (q2 (zq (cq (.cons .const (.cons .const .nil)) (r8end_ok (o := r8end_s 2 0) rfl  _ _) pn) (rz (sta 0 m19 m0 t3) (q4 (bR (tR (pkE (p2 pn) (tE ro_dup (pkE (p3 pn) (sf f ?_))))))))))
 obtain rfl := sI hs
 exact fa e19 e3 (d2 (eP (p1 (p2 (p1 pn)))))
def r8steal_s (m : MemV) (f : FrV) : Option (ResV × MemV × FrV) :=
 if f.line = 1 then
  bT (eload_s m f.q.top) fun r4 =>
  some ((⟨false, 0, 0⟩ : ResV), r4.2, ({ f with line := (wi (f.line + 1)), v := r4.1 } : FrV))
 else
 if f.line = 2 then
  bT (eload_s m f.q.bottom) fun r6 =>
  if (r8size_s r6.1 f.v) ≤ 0 then
   some ((r8end_s 2 0), r6.2, ({ f with u := r6.1 } : FrV))
  else
  some ((⟨false, 0, 0⟩ : ResV), r6.2, ({ f with line := (wi (f.line + 1)), u := r6.1 } : FrV))
 else
 if f.line = 3 then
  (r8ring_s f.q f.v).bind fun r9 =>
  bT (eload_s m r9) fun r10 =>
  some ((⟨false, 0, 0⟩ : ResV), r10.2, ({ f with line := (wi (f.line + 1)), w := r10.1 } : FrV))
 else
 bT (ecas_s m f.q.top f.v (wu (f.v + 1))) fun r11 =>
 if r11.1 = true then
  some ((r8end_s 1 (wi f.w)), r11.2, f)
 else
 some ((r8end_s 4 0), r11.2, f)
theorem r8steal_ok {o : ResV × MemV × FrV} (hs : r8steal_s m f = some o) (eb : Nat) (fb fo : Nat)  (B : Nat) (W : World)  : Fn_ Tryz.prog 120 #[vp eb 0, vp fb fo] B W [memS eb 11 m, frS fb fo f] (X := Unit) (fun x => .agg #[.bool (o.1.done), vi o.1.code, vi o.1.value]) (fun x => [memS eb 11 o.2.1, frS fb fo o.2.2]) := by
 unfold r8steal_s at hs
 refine fe2 Tryz.func120 91 rfl (fun F => ?_)
 refine q2 (rn (al [.bool false, zi, zi]) ?_)
 rintro b1
 refine q1 (cS (cS (ct_open pick2 ?_)))
 rintro ⟨A2, c2⟩
 refine cR (zp (mv m2) (zp (nc m0) (zp (fd 1 (fo + 1) m0) (zq (ld fo 1 m0 e0 rfl) (q1 (cB (q2 (zp (eqL m0 .const) (zp (asg m0) (q1 (ci hs m0 (fun h3 hs => ?_) (fun h3 hs => ?_))))))))))))
 ·refine cR (zp (mv m8) (zp (mv m8) (zp (mv m10) (zp (nc m0) (zp (fd 2 (fo + 2) m0) (zp (fd 0 (fo + 2) m0) (zq (ld fo 2 m0 e0 rfl) ?_)))))))
  obtain ⟨r4, hr4, hs⟩ := bF hs
  refine ru (co (.cons m5 (.cons m0 .nil)) (eload_ok hr4 eb _ _) (p3 pn)) (zp (nc m7) (zp (fd 14 (fo + 14) m0) (rz (st1 fo w14 m0 m2 t1) (rN (tB (tT (q2 (zp (mv m18) (zp (nc m0) (zp (fd 1 (fo + 1) m0) (zq (ld fo 1 m0 e1 rfl) (zp (aI m0 .const) (zp (nc m4) (zp (fd 1 (fo + 1) m0) (rz (st1 fo w1 m0 m2 t1) (q3 (zp bz (rz (sta 0 (mU m4) m0 t3) (q4 (pkE (p2 pn) (tE ro_dup (pkE (p3 pn) (sf ({ f with line := (wi (f.line + 1)), v := r4.1 } : FrV) ?_)))))))))))))))))))))))
  obtain rfl := sI hs
  exact fa (eU e4) e3 (d2 (eP (p1 (p2 (p1 pn)))))
 refine q2 (zp (eqL m2 .const) (zp (asg m0) (q1 (ci hs m0 (fun h5 hs => ?_) (fun h5 hs => ?_)))))
 ·refine q2 (zp (mv m10) (zp (mv m10) (zp (mv m12) (zp (nc m0) (zp (fd 2 (fo + 2) m0) (zp (fd 1 (fo + 3) m0) (zq (ld fo 3 m0 e0 rfl) ?_)))))))
  obtain ⟨r6, hr6, hs⟩ := bF hs
  refine ru (co (.cons m5 (.cons m0 .nil)) (eload_ok hr6 eb _ _) (p3 pn)) (zp (nc m7) (zp (fd 13 (fo + 13) m0) (rz (st1 fo w13 m0 m2 t1) (q1 (cS (ct_draw (by kernel_rfl) (by kernel_rfl) ?_))))))
  refine yp (mv (mU m0)) (yp (nc m0) (yp (fd 13 (fo + 13) m0) (yq (ld fo 13 m0 e1 rfl) (yp (mv (mU m4)) (yp (nc m0) (yp (fd 14 (fo + 14) m0) (yq (ld fo 14 m0 e1 rfl) (yq (cq (.cons m4 (.cons m0 .nil)) (r8size_ok (o := r8size_s r6.1 f.v) rfl  _ _) pn) (yp (op_leq m0 .const) (qN (tT (ci hs m0 (fun h7 hs => ?_) (fun h7 hs => ?_)))))))))))))
  ·refine q2 (zq (cq (.cons .const (.cons .const .nil)) (r8end_ok (o := r8end_s 2 0) rfl  _ _) pn) (rz (sta 0 (mU m9) m0 t3) (q4 (bR (tR (pkE (p2 pn) (tE ro_dup (pkE (p3 pn) (sf ({ f with u := r6.1 } : FrV) ?_)))))))))
   obtain rfl := sI hs
   exact fa (eU e9) e3 (d2 (eP (p1 (p2 (p1 pn)))))
  refine cK (tB (tT (q2 (zp (mv (mU m10)) (zp (nc m0) (zp (fd 1 (fo + 1) m0) (zq (ld fo 1 m0 e1 rfl) (zp (aI m0 .const) (zp (nc m4) (zp (fd 1 (fo + 1) m0) (rz (st1 fo w1 m0 m2 t1) (q3 (zp bz (rz (sta 0 (mU m16) m0 t3) (q4 (pkE (p2 pn) (tE ro_dup (pkE (p3 pn) (sf ({ f with line := (wi (f.line + 1)), u := r6.1 } : FrV) ?_)))))))))))))))))))
  obtain rfl := sI hs
  exact fa (eU e16) e3 (d2 (eP (p1 (p2 (p1 pn)))))
 refine q2 (zp (eqL m4 .const) (zp (asg m0) (q1 (ci hs m0 (fun h8 hs => ?_) (fun h8 hs => ?_)))))
 ·refine ca 15 ?_
  refine zt 0 rfl (mv m12) ?_
  refine zt 1 rfl (mv m12) ?_
  refine zt 2 rfl (mv m14) ?_
  refine zt 3 rfl (nc m0) ?_
  refine zt 4 rfl (fd 2 (fo + 2) m0) ?_
  refine zt 6 rfl (mv m17) ?_
  refine zt 7 rfl (nc m0) ?_
  refine zt 8 rfl (fd 14 (fo + 14) m0) ?_
  refine at_group [5, 9, 10] 4 rfl (by kernel_rfl) rfl ?_
  refine yq (oq_loadA (o := fo) (i := 2) (k := 4) (us := [vi f.q.top, vi f.q.bottom, vi f.q.ring, vi f.q.cap]) m3 e0 (by omega) (by kernel_rfl) rfl rfl) (yq (ld fo 14 m1 e0 rfl) ?_)
  obtain ⟨r9, hr9, hs⟩ := bO_of hs
  refine yq (cq (.cons m1 (.cons m0 .nil)) (r8ring_ok hr9  _ _) pn) (qN ?_)
  obtain ⟨r10, hr10, hs⟩ := bF hs
  refine tu 11 rfl (co (.cons m9 (.cons m0 .nil)) (eload_ok hr10 eb _ _) (p3 pn)) ?_
  refine zt 12 rfl (nc m11) ?_
  refine zt 13 rfl (fd 15 (fo + 15) m0) ?_
  refine tz 14 rfl (st1 fo w15 m0 m2 t1) ?_
  refine zz ?_
  refine tB (tT (q2 (zp (mv (mU m6)) (zp (nc m0) (zp (fd 1 (fo + 1) m0) (zq (ld fo 1 m0 e1 rfl) (zp (aI m0 .const) (zp (nc m4) (zp (fd 1 (fo + 1) m0) (rz (st1 fo w1 m0 m2 t1) (q3 (zp bz (rz (sta 0 (mU m12) m0 t3) (q4 (pkE (p2 pn) (tE ro_dup (pkE (p3 pn) (sf ({ f with line := (wi (f.line + 1)), w := r10.1 } : FrV) ?_))))))))))))))))))
  obtain rfl := sI hs
  exact fa (eU e12) e3 (d2 (eP (p1 (p2 (p1 pn)))))
 refine cS (cS (ca 16 ?_))
 refine zt 0 rfl (mv m11) ?_
 refine zt 1 rfl (mv m13) ?_
 refine zt 2 rfl (nc m0) ?_
 refine zt 3 rfl (fd 2 (fo + 2) m0) ?_
 refine zt 4 rfl (fd 0 (fo + 2) m0) ?_
 refine zt 6 rfl (mv m17) ?_
 refine zt 7 rfl (nc m0) ?_
 refine zt 8 rfl (fd 14 (fo + 14) m0) ?_
 refine zt 10 rfl (mv (mU m0)) ?_
 refine zt 11 rfl (nc m0) ?_
 refine zt 12 rfl (fd 14 (fo + 14) m0) ?_
 refine at_group [5, 9, 13, 14] 1 rfl (by kernel_rfl) rfl ?_
 refine yq (ld fo 2 m6 e0 rfl) (yq (ld fo 14 m4 e0 rfl) (yq (ld fo 14 m2 e0 rfl) (yp (op_addU m0 .const) (qN ?_))))
 obtain ⟨r11, hr11, hs⟩ := bF hs
 refine tu 15 rfl (co (.cons m14 (.cons m3 (.cons m2 (.cons m0 .nil)))) (ecas_ok hr11 eb _ _) (p3 pn)) ?_
 refine zz ?_
 refine tT (cj hs m0 (fun h12 hs => ?_) (fun h12 hs => ?_))
 ·refine q2 (zp (mv (mU m8)) (zp (nc m0) (zp (fd 15 (fo + 15) m0) (zq (ld fo 15 m0 e1 rfl) (zp (op_convI m0 Tryz.underlying50 Tryz.underlying3) (zq (cq (.cons .const (.cons m0 .nil)) (r8end_ok (o := r8end_s 1 (wi f.w)) rfl  _ _) pn) (rz (sta 0 (mU m12) m0 t3) (q4 (tR (bR (tR (pkE (p2 pn) (tE ro_dup (pkE (p3 pn) (sf f ?_)))))))))))))))
  obtain rfl := sI hs
  exact fa (eU e12) e3 (d2 (eP (p1 (p2 (p1 pn)))))
 refine cK (tT (q2 (zq (cq (.cons .const (.cons .const .nil)) (r8end_ok (o := r8end_s 4 0) rfl  _ _) pn) (rz (sta 0 (mU m7) m0 t3) (q4 (bR (tR (pkE (p2 pn) (tE ro_dup (pkE (p3 pn) (sf f ?_)))))))))))
 obtain rfl := sI hs
 exact fa (eU e7) e3 (d2 (eP (p1 (p2 (p1 pn)))))
def r8clearbit_s (m : MemV) (f : FrV) : Option (ResV × MemV × FrV) :=
 if f.line = 1 then
  (r1mask_s f.b).bind fun r4 =>
  bT (eand_s m f.a (cplU r4)) fun r5 =>
  some ((⟨false, 0, 0⟩ : ResV), r5.2, ({ f with line := (wi (f.line + 1)) } : FrV))
 else
 if f.line = 2 then
  bT (eload_s m f.q.bottom) fun r7 =>
  some ((⟨false, 0, 0⟩ : ResV), r7.2, ({ f with line := (wi (f.line + 1)), u := r7.1 } : FrV))
 else
 if f.line = 3 then
  bT (eload_s m f.q.top) fun r9 =>
  if (r8size_s f.u r9.1) ≤ 0 then
   some ((r8end_s 2 0), r9.2, ({ f with v := r9.1 } : FrV))
  else
  some ((⟨false, 0, 0⟩ : ResV), r9.2, ({ f with line := (wi (f.line + 1)), v := r9.1 } : FrV))
 else
 (r1mask_s f.b).bind fun r11 =>
 bT (eor_s m f.a r11) fun r12 =>
 some ((r8end_s 1 0), r12.2, f)
theorem r8clearbit_ok {o : ResV × MemV × FrV} (hs : r8clearbit_s m f = some o) (eb : Nat) (fb fo : Nat)  (B : Nat) (W : World)  : Fn_ Tryz.prog 124 #[vp eb 0, vp fb fo] B W [memS eb 11 m, frS fb fo f] (X := Unit) (fun x => .agg #[.bool (o.1.done), vi o.1.code, vi o.1.value]) (fun x => [memS eb 11 o.2.1, frS fb fo o.2.2]) := by
 unfold r8clearbit_s at hs
 refine fe2 Tryz.func124 78 rfl (fun F => ?_)
 refine q2 (rn (al [.bool false, zi, zi]) ?_)
 rintro b1
 refine q1 (cS (cS (ct_open pick2 ?_)))
 rintro ⟨A2, c2⟩
 refine cR (zp (mv m2) (zp (nc m0) (zp (fd 1 (fo + 1) m0) (zq (ld fo 1 m0 e0 rfl) (q1 (cB (q2 (zp (eqL m0 .const) (zp (asg m0) (q1 (ci hs m0 (fun h3 hs => ?_) (fun h3 hs => ?_))))))))))))
 ·refine ca 12 ?_
  refine zt 0 rfl (mv m7) ?_
  refine zt 1 rfl (mv m9) ?_
  refine zt 2 rfl (nc m0) ?_
  refine zt 3 rfl (fd 6 (fo + 6) m0) ?_
  refine zt 5 rfl (mv m12) ?_
  refine zt 6 rfl (nc m0) ?_
  refine zt 7 rfl (fd 7 (fo + 7) m0) ?_
  refine at_group [4, 8, 9, 10] 1 rfl (by kernel_rfl) rfl ?_
  refine yq (ld fo 6 m3 e0 rfl) (yq (ld fo 7 m1 e0 rfl) ?_)
  obtain ⟨r4, hr4, hs⟩ := bO_of hs
  refine yq (cq (.cons m0 .nil) (r1mask_ok hr4  _ _) pn) (yp (op_cplW m0) (qN ?_))
  obtain ⟨r5, hr5, hs⟩ := bF hs
  refine tu 11 rfl (co (.cons m10 (.cons m3 (.cons m0 .nil))) (eand_ok hr5 eb _ _) (p3 pn)) ?_
  refine zz ?_
  refine tB (tT (q2 (zp (mv (mU m0)) (zp (nc m0) (zp (fd 1 (fo + 1) m0) (zq (ld fo 1 m0 e1 rfl) (zp (aI m0 .const) (zp (nc m4) (zp (fd 1 (fo + 1) m0) (rz (st1 fo w1 m0 m2 t1) (q3 (zp bz (rz (sta 0 (mU m6) m0 t3) (q4 (pkE (p2 pn) (tE ro_dup (pkE (p3 pn) (sf ({ f with line := (wi (f.line + 1)) } : FrV) ?_))))))))))))))))))
  obtain rfl := sI hs
  exact fa (eU e6) e3 (d2 (eP (p1 (p2 (p1 pn)))))
 refine q2 (zp (eqL m2 .const) (zp (asg m0) (q1 (ci hs m0 (fun h6 hs => ?_) (fun h6 hs => ?_)))))
 ·refine cR (zp (mv m10) (zp (mv m10) (zp (mv m12) (zp (nc m0) (zp (fd 2 (fo + 2) m0) (zp (fd 1 (fo + 3) m0) (zq (ld fo 3 m0 e0 rfl) ?_)))))))
  obtain ⟨r7, hr7, hs⟩ := bF hs
  refine ru (co (.cons m5 (.cons m0 .nil)) (eload_ok hr7 eb _ _) (p3 pn)) (zp (nc m7) (zp (fd 13 (fo + 13) m0) (rz (st1 fo w13 m0 m2 t1) (rN (tB (tT (q2 (zp (mv (mU m0)) (zp (nc m0) (zp (fd 1 (fo + 1) m0) (zq (ld fo 1 m0 e1 rfl) (zp (aI m0 .const) (zp (nc m4) (zp (fd 1 (fo + 1) m0) (rz (st1 fo w1 m0 m2 t1) (q3 (zp bz (rz (sta 0 (mU m6) m0 t3) (q4 (pkE (p2 pn) (tE ro_dup (pkE (p3 pn) (sf ({ f with line := (wi (f.line + 1)), u := r7.1 } : FrV) ?_)))))))))))))))))))))))
  obtain rfl := sI hs
  exact fa (eU e6) e3 (d2 (eP (p1 (p2 (p1 pn)))))
 refine q2 (zp (eqL m4 .const) (zp (asg m0) (q1 (ci hs m0 (fun h8 hs => ?_) (fun h8 hs => ?_)))))
 ·refine q2 (zp (mv m12) (zp (mv m12) (zp (mv m14) (zp (nc m0) (zp (fd 2 (fo + 2) m0) (zp (fd 0 (fo + 2) m0) (zq (ld fo 2 m0 e0 rfl) ?_)))))))
  obtain ⟨r9, hr9, hs⟩ := bF hs
  refine ru (co (.cons m5 (.cons m0 .nil)) (eload_ok hr9 eb _ _) (p3 pn)) (zp (nc m7) (zp (fd 14 (fo + 14) m0) (rz (st1 fo w14 m0 m2 t1) (q1 (cS (ct_draw (by kernel_rfl) (by kernel_rfl) ?_))))))
  refine yp (mv (mU m2)) (yp (nc m0) (yp (fd 13 (fo + 13) m0) (yq (ld fo 13 m0 e1 rfl) (yp (mv (mU m6)) (yp (nc m0) (yp (fd 14 (fo + 14) m0) (yq (ld fo 14 m0 e1 rfl) (yq (cq (.cons m4 (.cons m0 .nil)) (r8size_ok (o := r8size_s f.u r9.1) rfl  _ _) pn) (yp (op_leq m0 .const) (qN (tT (ci hs m0 (fun h10 hs => ?_) (fun h10 hs => ?_)))))))))))))
  ·refine q2 (zq (cq (.cons .const (.cons .const .nil)) (r8end_ok (o := r8end_s 2 0) rfl  _ _) pn) (rz (sta 0 (mU m11) m0 t3) (q4 (bR (tR (pkE (p2 pn) (tE ro_dup (pkE (p3 pn) (sf ({ f with v := r9.1 } : FrV) ?_)))))))))
   obtain rfl := sI hs
   exact fa (eU e11) e3 (d2 (eP (p1 (p2 (p1 pn)))))
  refine cK (tB (tT (q2 (zp (mv (mU m12)) (zp (nc m0) (zp (fd 1 (fo + 1) m0) (zq (ld fo 1 m0 e1 rfl) (zp (aI m0 .const) (zp (nc m4) (zp (fd 1 (fo + 1) m0) (rz (st1 fo w1 m0 m2 t1) (q3 (zp bz (rz (sta 0 (mU m18) m0 t3) (q4 (pkE (p2 pn) (tE ro_dup (pkE (p3 pn) (sf ({ f with line := (wi (f.line + 1)), v := r9.1 } : FrV) ?_)))))))))))))))))))
  obtain rfl := sI hs
  exact fa (eU e18) e3 (d2 (eP (p1 (p2 (p1 pn)))))
 refine cS (ca 11 ?_)
 refine zt 0 rfl (mv m11) ?_
 refine zt 1 rfl (mv m13) ?_
 refine zt 2 rfl (nc m0) ?_
 refine zt 3 rfl (fd 6 (fo + 6) m0) ?_
 refine zt 5 rfl (mv m16) ?_
 refine zt 6 rfl (nc m0) ?_
 refine zt 7 rfl (fd 7 (fo + 7) m0) ?_
 refine at_group [4, 8, 9] 1 rfl (by kernel_rfl) rfl ?_
 refine yq (ld fo 6 m3 e0 rfl) (yq (ld fo 7 m1 e0 rfl) ?_)
 obtain ⟨r11, hr11, hs⟩ := bO_of hs
 refine yq (cq (.cons m0 .nil) (r1mask_ok hr11  _ _) pn) (qN ?_)
 obtain ⟨r12, hr12, hs⟩ := bF hs
 refine tu 10 rfl (co (.cons m9 (.cons m2 (.cons m0 .nil))) (eor_ok hr12 eb _ _) (p3 pn)) ?_
 refine zz ?_
 refine tT (q2 (zq (cq (.cons .const (.cons .const .nil)) (r8end_ok (o := r8end_s 1 0) rfl  _ _) pn) (rz (sta 0 (mU m2) m0 t3) (q4 (bR (tR (pkE (p2 pn) (tE ro_dup (pkE (p3 pn) (sf f ?_))))))))))
 obtain rfl := sI hs
 exact fa (eU e2) e3 (d2 (eP (p1 (p2 (p1 pn)))))
def r8insert_s (c : Cfg) (m : MemV) (f : FrV) : Option (ResV × MemV × FrV) :=
 if f.line = 1 then
  bT (eload_s m 2) fun r4 =>
  if c.heap ≤ (wi r4.1) then
   some ((r8end_s 3 0), r4.2, ({ f with n := (wi r4.1) } : FrV))
  else
  some ((⟨false, 0, 0⟩ : ResV), r4.2, ({ f with line := (wi (f.line + 1)), n := (wi r4.1) } : FrV))
 else
 if f.line = 2 then
  bT (eadd_s m 3 1) fun r7 =>
  (r1pack_s f.a (wi r7.1) f.b).bind fun r8 =>
  if (!r8.2) = true then
   some ((r8end_s 4 0), r7.2, f)
  else
  if f.n ≤ 0 then
   some ((⟨false, 0, 0⟩ : ResV), r7.2, ({ f with line := 5, i := f.n, w := r8.1 } : FrV))
  else
  some ((⟨false, 0, 0⟩ : ResV), r7.2, ({ f with line := (wi (f.line + 1)), i := f.n, w := r8.1 } : FrV))
 else
 if f.line = 3 then
  bT (eload_s m (r6slot_s c (wi (Int.tdiv (wi (f.i - 1)) 2)))) fun r16 =>
  if r16.1 ≤ f.w then
   some ((⟨false, 0, 0⟩ : ResV), r16.2, ({ f with line := 5, x := r16.1 } : FrV))
  else
  some ((⟨false, 0, 0⟩ : ResV), r16.2, ({ f with line := (wi (f.line + 1)), x := r16.1 } : FrV))
 else
 if f.line = 4 then
  bT (estore_s m (r6slot_s c f.i) f.x) fun r19 =>
  if (wi (Int.tdiv (wi (f.i - 1)) 2)) ≤ 0 then
   some ((⟨false, 0, 0⟩ : ResV), r19, ({ f with line := 5, i := (wi (Int.tdiv (wi (f.i - 1)) 2)) } : FrV))
  else
  some ((⟨false, 0, 0⟩ : ResV), r19, ({ f with line := 3, i := (wi (Int.tdiv (wi (f.i - 1)) 2)) } : FrV))
 else
 if f.line = 5 then
  bT (estore_s m (r6slot_s c f.i) f.w) fun r22 =>
  some ((⟨false, 0, 0⟩ : ResV), r22, ({ f with line := (wi (f.line + 1)) } : FrV))
 else
 bT (estore_s m 2 (wu (wi (f.n + 1)))) fun r23 =>
 some ((r8end_s 0 0), r23, f)
theorem r8insert_ok {o : ResV × MemV × FrV} (hs : r8insert_s c m f = some o) (eb : Nat) (l : CfgAt) (fb fo : Nat)  (B : Nat) (W : World)  : Fn_ Tryz.prog 129 #[vp eb 0, vp fb fo] B W [cP eb c l, memS eb 11 m, frS fb fo f] (X := Unit) (fun x => .agg #[.bool (o.1.done), vi o.1.code, vi o.1.value]) (fun x => [cP eb c l, memS eb 11 o.2.1, frS fb fo o.2.2]) := by
 unfold r8insert_s at hs
 refine fe2 Tryz.func129 161 rfl (fun F => ?_)
 refine q2 (rn (al [.bool false, zi, zi]) ?_)
 rintro b1
 refine q1 (cS (ct_open pick3 ?_))
 rintro ⟨A2, c2⟩
 refine cR (zp (mv m2) (zp (nc m0) (zp (fd 1 (fo + 1) m0) (zq (ld fo 1 m0 e0 rfl) (zp (aI m0 .const) (zp (asg m0) (q1 (cS (q2 (zp (mv m8) (zp (nc m0) (zp (fd 1 (fo + 1) m0) (zq (ld fo 1 m0 e0 rfl) (q1 (cB (q2 (zp (eqL m0 .const) (zp (asg m0) (q1 (ci hs m0 (fun h3 hs => ?_) (fun h3 hs => ?_)))))))))))))))))))))
 ·refine q2 (zp (mv m14) (zp (mv m14) ?_))
  obtain ⟨r4, hr4, hs⟩ := bF hs
  refine ru (co (.cons m0 (.cons .const .nil)) (eload_ok hr4 eb _ _) (p4 pn)) (zp (op_convI m0 Tryz.underlying50 Tryz.underlying3) (zp (nc m3) (zp (fd 11 (fo + 11) m0) (rz (st1 fo w11 m0 m2 t1) (q1 (cS (ct_draw (by kernel_rfl) (by kernel_rfl) ?_)))))))
  refine yp (mv (mU m0)) (yp (nc m0) (yp (fd 11 (fo + 11) m0) (yq (ld fo 11 m0 e1 rfl) (yp (mv (mU m3)) (yp (nc m0) (yp (fd 0 0 m0) (yp (fd 5 5 m0) (yq (ld 0 5 m0 e4 rfl) (yp (op_geq m5 m0) (qN (tT (ci hs m0 (fun h5 hs => ?_) (fun h5 hs => ?_)))))))))))))
  ·refine q2 (zq (cq (.cons .const (.cons .const .nil)) (r8end_ok (o := r8end_s 3 0) rfl  _ _) pn) (rz (sta 0 (mU m9) m0 t3) (q4 (bR (tR (pkE (p2 pn) (tE ro_dup (pkE (p3 pn) (sf ({ f with n := (wi r4.1) } : FrV) ?_)))))))))
   obtain rfl := sI hs
   exact fa (eU e9) e3 (d2 (eP (p1 (p2 (p2 (p1 pn))))))
  refine cK (tB (tT (q2 (zp (mv (mU m10)) (zp (mv (mU m3)) (zp (nc m1) (zp (fd 1 (fo + 1) m0) (rz (st1 fo w1 m0 m2 t1) (q3 (zp bz (rz (sta 0 (mU m13) m0 t3) (q4 (pkE (p2 pn) (tE ro_dup (pkE (p3 pn) (sf ({ f with line := (wi (f.line + 1)), n := (wi r4.1) } : FrV) ?_))))))))))))))))
  obtain rfl := sI hs
  exact fa (eU e13) e3 (d2 (eP (p1 (p2 (p2 (p1 pn))))))
 refine q2 (zp (eqL m2 .const) (zp (asg m0) (q1 (ci hs m0 (fun h6 hs => ?_) (fun h6 hs => ?_)))))
 ·refine cS ?_
  obtain ⟨r7, hr7, hs⟩ := bF hs
  obtain ⟨r8, hr8, hs⟩ := bO_of hs
  refine ct_cutG (S := Unit) (G := Unit) (fun _ => True) (fun _ _ => [(7, .bool (r8.2)), (6, vu r8.1), (5, vi ((wi (f.line + 1)))), (4, vp b1 0), (1, vp fb fo)]) (fun _ _ => memS eb 11 r7.2 :: pts fb fo [vi f.kind, vi f.line, vi f.q.top, vi f.q.bottom, vi f.q.ring, vi f.q.cap, vi f.a, vi f.b, vi f.d, vi f.i, vi f.j, vi f.n, vi f.t, vu f.u, vu f.v, vu f.w, vu f.x, .slice A2 f.l.length c2] :: roS encInt 1 A2 c2 f.l :: pts b1 0 [.bool false, zi, zi] :: cP eb c l :: [F]) ?_ (fun _ _ _ => (?_ : CT _ _ _ _ _ _ _ _ _))
  ·refine ca 17 ?_
   refine at_key (X := fun A_ => A_ #[true, true, true, true, true, true, true, true, true, true, true, false, false, false, false, false, false] 6 [(58, vi f.b), (54, vi ((wi r7.1))), (51, vi f.a), (5, vi ((wi (f.line + 1)))), (4, vp b1 0), (1, vp fb fo)] (memS eb 11 r7.2 :: pts fb fo [vi f.kind, vi f.line, vi f.q.top, vi f.q.bottom, vi f.q.ring, vi f.q.cap, vi f.a, vi f.b, vi f.d, vi f.i, vi f.j, vi f.n, vi f.t, vu f.u, vu f.v, vu f.w, vu f.x, .slice A2 f.l.length c2] :: roS encInt 1 A2 c2 f.l :: pts b1 0 [.bool false, zi, zi] :: cP eb c l :: [F])) ?_ (fun k11 => ?_)
   ·show AT _ _ _ _ _ _ _ _ _ _
    refine za 11 rfl (cq (.cons m2 (.cons m1 (.cons m0 .nil))) (r1pack_ok hr8  _ _) pn) ?_
    refine zt 12 rfl (mv m0) ?_
    refine zt 13 rfl (op_extract m0 rfl) ?_
    refine zt 14 rfl (op_extract m1 rfl) ?_
    refine zt 15 rfl (asg m1) ?_
    refine zt 16 rfl (asg m1) ?_
    refine zz ?_
    exact aK () () trivial (lc e0 (lc e1 (lc e9 (lc e10 (lc e11 lN))))) Ent.refl
   refine zt 0 rfl (mv m16) ?_
   refine zt 1 rfl (nc m0) ?_
   refine zt 2 rfl (fd 6 (fo + 6) m0) ?_
   refine zt 4 rfl (mv m18) ?_
   refine zt 7 rfl (mv (mU m0)) ?_
   refine zt 8 rfl (nc m0) ?_
   refine zt 9 rfl (fd 7 (fo + 7) m0) ?_
   refine x3 3 5 10 ?_ ?_ ?_
   ·refine zs rfl (ld fo 6 m4 e0 rfl) ?_
    refine x2 5 10 ?_ ?_
    ·refine uu rfl (co (.cons m4 (.cons .const (.cons .const .nil))) (eadd_ok hr7 eb _ _) (p4 pn)) ?_
     refine zt 6 rfl (op_convI m0 Tryz.underlying50 Tryz.underlying3) ?_
     refine za 10 rfl (ld fo 7 m3 e1 rfl) ?_
     exact at_use k11 (lc e0 (lc e1 (lc e3 (lc e19 (lc (eU e5) (lc (eU e7) lN)))))) Ent.refl
    refine zs rfl (ld fo 7 m1 e0 rfl) ?_
    refine tu 5 rfl (co (.cons m5 (.cons .const (.cons .const .nil))) (eadd_ok hr7 eb _ _) (p4 pn)) ?_
    refine zt 6 rfl (op_convI m0 Tryz.underlying50 Tryz.underlying3) ?_
    exact at_use k11 (lc e2 (lc e0 (lc e3 (lc e19 (lc (eU e5) (lc (eU e7) lN)))))) Ent.refl
   ·refine uu rfl (co (.cons m3 (.cons .const (.cons .const .nil))) (eadd_ok hr7 eb _ _) (p4 pn)) ?_
    refine zt 6 rfl (op_convI m0 Tryz.underlying50 Tryz.underlying3) ?_
    refine at_group [3, 10, 11, 12, 13, 14, 15, 16] 0 rfl (by kernel_rfl) rfl ?_
    refine yq (ld fo 6 m6 e1 rfl) (yq (ld fo 7 m3 e1 rfl) (yq (cq (.cons m1 (.cons m2 (.cons m0 .nil))) (r1pack_ok hr8  _ _) pn) (yp (mv m0) (yp (op_extract m0 rfl) (yp (op_extract m1 rfl) (yp (asg m1) (yp (asg m1) (qN (zz ?_)))))))))
    exact aK () () trivial (lc e0 (lc e1 (lc (eU e5) (lc (eU e11) (lc (eU e13) lN))))) Ent.refl
   refine zs rfl (ld fo 7 m0 e0 rfl) ?_
   refine x2 3 5 ?_ ?_
   ·refine zs rfl (ld fo 6 m5 e0 rfl) ?_
    refine tu 5 rfl (co (.cons m5 (.cons .const (.cons .const .nil))) (eadd_ok hr7 eb _ _) (p4 pn)) ?_
    refine zt 6 rfl (op_convI m0 Tryz.underlying50 Tryz.underlying3) ?_
    exact at_use k11 (lc e3 (lc e0 (lc e2 (lc e19 (lc (eU e5) (lc (eU e7) lN)))))) Ent.refl
   refine uu rfl (co (.cons m4 (.cons .const (.cons .const .nil))) (eadd_ok hr7 eb _ _) (p4 pn)) ?_
   refine zt 6 rfl (op_convI m0 Tryz.underlying50 Tryz.underlying3) ?_
   refine za 3 rfl (ld fo 6 m7 e1 rfl) ?_
   exact at_use k11 (lc e3 (lc e1 (lc e0 (lc e19 (lc (eU e5) (lc (eU e7) lN)))))) Ent.refl
  refine cS (q2 (zp (mv m0) (zp (op_notb m0) (q1 (cj hs m0 (fun h13 hs => ?_) (fun h13 hs => ?_))))))
  ·refine q2 (zq (cq (.cons .const (.cons .const .nil)) (r8end_ok (o := r8end_s 4 0) rfl  _ _) pn) (rz (sta 0 m6 m0 t3) (q4 (tR (bR (tR (pkE (p2 pn) (tE ro_dup (pkE (p3 pn) (sf f ?_))))))))))
   obtain rfl := sI hs
   exact fa e6 e3 (d2 (eP (p1 (p2 (p2 (p1 pn))))))
  refine cK (tT (q2 (zp (mv m6) (zp (mv m7) (zp (mv m5) (zp (mv m9) (zp (nc m0) (zp (fd 11 (fo + 11) m0) (zq (ld fo 11 m0 e1 rfl) (zp (nc m6) (zp (fd 15 (fo + 15) m0) (rz (st1 fo w15 m0 m6 t1) (zp (nc m7) (zp (fd 9 (fo + 9) m0) (rz (st1 fo w9 m0 m4 t1) (q3 (zp (mv m17) (zp (nc m0) (zp (fd 9 (fo + 9) m0) (zq (ld fo 9 m0 e1 rfl) (zp (op_leq m0 .const) (q1 (ci hs m0 (fun h14 hs => ?_) (fun h14 hs => ?_))))))))))))))))))))))))
  ·refine cR (zo (asg .const) (pickU pick0) (rN (tB (tT (q2 (zp (mv (mU m2)) (zp (mv m1) (zp (nc m1) (zp (fd 1 (fo + 1) m0) (rz (st1 fo w1 m0 m2 t1) (q3 (zp bz (rz (sta 0 (mU m6) m0 t3) (q4 (pkE (p2 pn) (tE ro_dup (pkE (p3 pn) (sf ({ f with line := 5, i := f.n, w := r8.1 } : FrV) ?_))))))))))))))))))
   obtain rfl := sI hs
   exact fa (eU e6) e3 (d2 (eP (p1 (p2 (p2 (p1 pn))))))
  refine cK (tB (tT (q2 (zp (mv (mU m2)) (zp (mv (mU m1)) (zp (nc m1) (zp (fd 1 (fo + 1) m0) (rz (st1 fo w1 m0 m2 t1) (q3 (zp bz (rz (sta 0 (mU m6) m0 t3) (q4 (pkE (p2 pn) (tE ro_dup (pkE (p3 pn) (sf ({ f with line := (wi (f.line + 1)), i := f.n, w := r8.1 } : FrV) ?_))))))))))))))))
  obtain rfl := sI hs
  exact fa (eU e6) e3 (d2 (eP (p1 (p2 (p2 (p1 pn))))))
 refine q2 (zp (eqL m4 .const) (zp (asg m0) (q1 (ci hs m0 (fun h15 hs => ?_) (fun h15 hs => ?_)))))
 ·refine cS (ca 17 ?_)
  refine zt 0 rfl (mv m18) ?_
  refine zt 1 rfl (mv m18) ?_
  refine zt 2 rfl (mv m19) ?_
  refine zt 3 rfl (nc m0) ?_
  refine zt 4 rfl (fd 0 0 m0) ?_
  refine zt 6 rfl (mv (mU m3)) ?_
  refine zt 7 rfl (nc m0) ?_
  refine zt 8 rfl (fd 9 (fo + 9) m0) ?_
  refine at_group [5, 9, 10, 11, 12] 4 rfl (by kernel_rfl) rfl ?_
  refine yq (lda 0 m3 e3) (yq (ld fo 9 m1 e0 rfl) (yp (op_subI m0 .const) (yp (op_quoI m0 .const (by decide)) (yq (cq (.cons m3 (.cons m0 .nil)) (r6slot_ok (o := r6slot_s c (wi (Int.tdiv (wi (f.i - 1)) 2))) rfl l _ _) pn) (qN ?_)))))
  obtain ⟨r16, hr16, hs⟩ := bF hs
  refine tu 13 rfl (co (.cons m11 (.cons m0 .nil)) (eload_ok hr16 eb _ _) (p4 pn)) ?_
  refine zt 14 rfl (nc m13) ?_
  refine zt 15 rfl (fd 16 (fo + 16) m0) ?_
  refine tz 16 rfl (st1 fo w16 m0 m2 t1) ?_
  refine zz ?_
  refine tT (cS (ct_draw (by kernel_rfl) (by kernel_rfl) ?_))
  refine yp (mv (mU m14)) (yp (nc m0) (yp (fd 16 (fo + 16) m0) (yq (ld fo 16 m0 e1 rfl) (yp (mv (mU m18)) (yp (nc m0) (yp (fd 15 (fo + 15) m0) (yq (ld fo 15 m0 e1 rfl) (yp (op_leq m4 m0) (qN (tT (ci hs m0 (fun h17 hs => ?_) (fun h17 hs => ?_))))))))))))
  ·refine cR (zo (asg .const) (pickU pick15) (rN (tB (tT (q2 (zp (mv (mU (mU m3))) (zp (mv m1) (zp (nc m1) (zp (fd 1 (fo + 1) m0) (rz (st1 fo w1 m0 m2 t1) (q3 (zp bz (rz (sta 0 (mU (mU m6)) m0 t3) (q4 (pkE (p2 pn) (tE ro_dup (pkE (p3 pn) (sf ({ f with line := 5, x := r16.1 } : FrV) ?_))))))))))))))))))
   obtain rfl := sI hs
   exact fa (eU (eU e6)) e3 (d2 (eP (p1 (p2 (p2 (p1 pn))))))
  refine cK (tB (tT (q2 (zp (mv (mU (mU m3))) (zp (mv (mU m16)) (zp (nc m1) (zp (fd 1 (fo + 1) m0) (rz (st1 fo w1 m0 m2 t1) (q3 (zp bz (rz (sta 0 (mU (mU m6)) m0 t3) (q4 (pkE (p2 pn) (tE ro_dup (pkE (p3 pn) (sf ({ f with line := (wi (f.line + 1)), x := r16.1 } : FrV) ?_))))))))))))))))
  obtain rfl := sI hs
  exact fa (eU (eU e6)) e3 (d2 (eP (p1 (p2 (p2 (p1 pn))))))
 refine q2 (zp (eqL m6 .const) (zp (asg m0) (q1 (ci hs m0 (fun h18 hs => ?_) (fun h18 hs => ?_)))))
 ·refine cS (ca 15 ?_)
  refine zt 0 rfl (mv m19) ?_
  refine zt 1 rfl (mv (mU m0)) ?_
  refine zt 2 rfl (nc m0) ?_
  refine zt 3 rfl (fd 0 0 m0) ?_
  refine zt 5 rfl (mv (mU m4)) ?_
  refine zt 6 rfl (nc m0) ?_
  refine zt 7 rfl (fd 9 (fo + 9) m0) ?_
  refine zt 10 rfl (mv (mU m7)) ?_
  refine zt 11 rfl (nc m0) ?_
  refine zt 12 rfl (fd 16 (fo + 16) m0) ?_
  refine at_group [4, 8, 9, 13] 1 rfl (by kernel_rfl) rfl ?_
  refine yq (lda 0 m6 e3) (yq (ld fo 9 m4 e0 rfl) (yq (cq (.cons m1 (.cons m0 .nil)) (r6slot_ok (o := r6slot_s c f.i) rfl l _ _) pn) (yq (ld fo 16 m3 e0 rfl) (qN ?_))))
  obtain ⟨r19, hr19, hs⟩ := bF hs
  refine tu 14 rfl (co (.cons m13 (.cons m1 (.cons m0 .nil))) (estore_ok hr19 eb _ _) (p4 pn)) ?_
  refine zz ?_
  refine tT (q2 (zp (mv (mU m15)) (zp (mv (mU m16)) (zp (nc m0) (zp (fd 9 (fo + 9) m0) (zq (ld fo 9 m0 e1 rfl) (zp (op_subI m0 .const) (zp (op_quoI m0 .const (by decide)) (zp (nc m6) (zp (fd 9 (fo + 9) m0) (rz (st1 fo w9 m0 m2 t1) (q3 (zo (asg .const) (pickU pick16) (q3 (zp (mv (mU (mU m4))) (zp (nc m0) (zp (fd 9 (fo + 9) m0) (zq (ld fo 9 m0 e1 rfl) (zp (op_leq m0 .const) (q1 (ci hs m0 (fun h20 hs => ?_) (fun h20 hs => ?_))))))))))))))))))))))
  ·refine cR (zo (asg .const) pick5 (rN (tB (tT (q2 (zp (mv (mU (mU m9))) (zp (mv m1) (zp (nc m1) (zp (fd 1 (fo + 1) m0) (rz (st1 fo w1 m0 m2 t1) (q3 (zp bz (rz (sta 0 (mU (mU m12)) m0 t3) (q4 (pkE (p2 pn) (tE ro_dup (pkE (p3 pn) (sf ({ f with line := 5, i := (wi (Int.tdiv (wi (f.i - 1)) 2)) } : FrV) ?_))))))))))))))))))
   obtain rfl := sI hs
   exact fa (eU (eU e12)) e3 (d2 (eP (p1 (p2 (p2 (p1 pn))))))
  refine cK (tB (tT (q2 (zp (mv (mU (mU m9))) (zp (mv m6) (zp (nc m1) (zp (fd 1 (fo + 1) m0) (rz (st1 fo w1 m0 m2 t1) (q3 (zp bz (rz (sta 0 (mU (mU m12)) m0 t3) (q4 (pkE (p2 pn) (tE ro_dup (pkE (p3 pn) (sf ({ f with line := 3, i := (wi (Int.tdiv (wi (f.i - 1)) 2)) } : FrV) ?_))))))))))))))))
  obtain rfl := sI hs
  exact fa (eU (eU e12)) e3 (d2 (eP (p1 (p2 (p2 (p1 pn))))))
 refine q2 (zp (eqL m8 .const) (zp (asg m0) (q1 (ci hs m0 (fun h21 hs => ?_) (fun h21 hs => ?_)))))
 ·refine ca 15 ?_
  refine zt 0 rfl (mv (mU m1)) ?_
  refine zt 1 rfl (mv (mU m2)) ?_
  refine zt 2 rfl (nc m0) ?_
  refine zt 3 rfl (fd 0 0 m0) ?_
  refine zt 5 rfl (mv (mU m6)) ?_
  refine zt 6 rfl (nc m0) ?_
  refine zt 7 rfl (fd 9 (fo + 9) m0) ?_
  refine zt 10 rfl (mv (mU m9)) ?_
  refine zt 11 rfl (nc m0) ?_
  refine zt 12 rfl (fd 15 (fo + 15) m0) ?_
  refine at_group [4, 8, 9, 13] 1 rfl (by kernel_rfl) rfl ?_
  refine yq (lda 0 m6 e3) (yq (ld fo 9 m4 e0 rfl) (yq (cq (.cons m1 (.cons m0 .nil)) (r6slot_ok (o := r6slot_s c f.i) rfl l _ _) pn) (yq (ld fo 15 m3 e0 rfl) (qN ?_))))
  obtain ⟨r22, hr22, hs⟩ := bF hs
  refine tu 14 rfl (co (.cons m13 (.cons m1 (.cons m0 .nil))) (estore_ok hr22 eb _ _) (p4 pn)) ?_
  refine zz ?_
  refine tB (tT (q2 (zp (mv (mU m17)) (zp (mv (mU m10)) (zp (nc m1) (zp (fd 1 (fo + 1) m0) (rz (st1 fo w1 m0 m2 t1) (q3 (zp bz (rz (sta 0 (mU (mU m0)) m0 t3) (q4 (pkE (p2 pn) (tE ro_dup (pkE (p3 pn) (sf ({ f with line := (wi (f.line + 1)) } : FrV) ?_)))))))))))))))
  obtain rfl := sI hs
  exact fa (eU (eU e0)) e3 (d2 (eP (p1 (p2 (p2 (p1 pn))))))
 refine q2 (zp (mv (mU m1)) (zp (mv (mU m3)) (zp (nc m0) (zp (fd 11 (fo + 11) m0) (zq (ld fo 11 m0 e0 rfl) (zp (aI m0 .const) (zp (op_convU m0 Tryz.underlying3 Tryz.underlying50) ?_)))))))
 obtain ⟨r23, hr23, hs⟩ := bF hs
 refine ru (co (.cons m6 (.cons .const (.cons m0 .nil))) (estore_ok hr23 eb _ _) (p4 pn)) (q3 (zq (cq (.cons .const (.cons .const .nil)) (r8end_ok (o := r8end_s 0 0) rfl  _ _) pn) (rz (sta 0 (mU m9) m0 t3) (q4 (bR (tR (pkE (p2 pn) (tE ro_dup (pkE (p3 pn) (sf f ?_))))))))))
 obtain rfl := sI hs
 exact fa (eU e9) e3 (d2 (eP (p1 (p2 (p2 (p1 pn))))))
end Go.Proofs.YtpbkelpokpglaaaGreat
