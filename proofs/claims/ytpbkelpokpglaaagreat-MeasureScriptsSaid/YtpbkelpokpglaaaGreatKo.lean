/- The reference, function by function: the injector, the table. -/
import Derived.Test.YtpbkelpokpglaaaGreatKm
import Derived.Test.YtpbkelpokpglaaaGreatKk
import Derived.Test.YtpbkelpokpglaaaGreatRows
set_option linter.all false
namespace Go.Proofs.YtpbkelpokpglaaaGreat
open Go Go.RowKit
set_option maxRecDepth 100000
set_option maxHeartbeats 2000000
variable {c : Cfg} {m : MemV} {now draw : Int} {recs : List RecV} {evs : List Ev} {f : FrV}
def r8remove_s (c : Cfg) (m : MemV) (evs : List Ev) (f : FrV) : Option (ResV × MemV × (List Ev) × FrV) :=
 (r1unpack_s f.u).bind fun r3 =>
 if f.line = 1 then
  bT (eload_s m 2) fun r5 =>
  if (wi r5.1) ≤ 0 then
   some ((r8end_s 2 0), r5.2, evs, ({ f with n := (wi r5.1) } : FrV))
  else
  some ((⟨false, 0, 0⟩ : ResV), r5.2, evs, ({ f with line := (wi (f.line + 1)), n := (wi r5.1) } : FrV))
 else
 if f.line = 2 then
  bT (eload_s m (r6slot_s c 0)) fun r8 =>
  some ((⟨false, 0, 0⟩ : ResV), r8.2, evs, ({ f with line := (wi (f.line + 1)), u := r8.1 } : FrV))
 else
 if f.line = 3 then
  bT (eload_s m (r6slot_s c (wi (f.n - 1)))) fun r10 =>
  some ((⟨false, 0, 0⟩ : ResV), r10.2, evs, ({ f with line := (wi (f.line + 1)), v := r10.1 } : FrV))
 else
 if f.line = 4 then
  bT (estore_s m 2 (wu (wi (f.n - 1)))) fun r12 =>
  (eemit_s evs 13 f.a r3.2.2 0 0).bind fun r13 =>
  if f.n = 1 then
   some ((r8end_s 1 r3.2.2), r12, r13, f)
  else
  some ((⟨false, 0, 0⟩ : ResV), r12, r13, ({ ({ f with i := 0 } : FrV) with line := (r8child_s ({ f with i := 0 } : FrV)), q := (({ f with i := 0 } : FrV).q) } : FrV))
 else
 if f.line = 5 then
  bT (eload_s m (r6slot_s c (wi ((wi (2 * f.i)) + 1)))) fun r17 =>
  if (wi (f.n - 1)) ≤ (wi ((wi (2 * f.i)) + 2)) then
   some ((⟨false, 0, 0⟩ : ResV), r17.2, evs, ({ ({ f with j := (wi ((wi (2 * f.i)) + 1)), w := r17.1 } : FrV) with line := (r8lesser_s ({ f with j := (wi ((wi (2 * f.i)) + 1)), w := r17.1 } : FrV)), q := (({ f with j := (wi ((wi (2 * f.i)) + 1)), w := r17.1 } : FrV).q) } : FrV))
  else
  some ((⟨false, 0, 0⟩ : ResV), r17.2, evs, ({ f with line := (wi (f.line + 1)), j := (wi ((wi (2 * f.i)) + 1)), w := r17.1 } : FrV))
 else
 if f.line = 6 then
  bT (eload_s m (r6slot_s c (wi ((wi (2 * f.i)) + 2)))) fun r21 =>
  if r21.1 < f.w then
   some ((⟨false, 0, 0⟩ : ResV), r21.2, evs, ({ ({ f with j := (wi ((wi (2 * f.i)) + 2)), w := r21.1 } : FrV) with line := (r8lesser_s ({ f with j := (wi ((wi (2 * f.i)) + 2)), w := r21.1 } : FrV)), q := (({ f with j := (wi ((wi (2 * f.i)) + 2)), w := r21.1 } : FrV).q) } : FrV))
  else
  some ((⟨false, 0, 0⟩ : ResV), r21.2, evs, ({ f with line := (r8lesser_s f) } : FrV))
 else
 if f.line = 7 then
  bT (estore_s m (r6slot_s c f.i) f.w) fun r26 =>
  some ((⟨false, 0, 0⟩ : ResV), r26, evs, ({ ({ f with i := f.j } : FrV) with line := (r8child_s ({ f with i := f.j } : FrV)), q := (({ f with i := f.j } : FrV).q) } : FrV))
 else
 bT (estore_s m (r6slot_s c f.i) f.v) fun r28 =>
 some ((r8end_s 1 r3.2.2), r28, evs, f)
theorem r8remove_ok {o : ResV × MemV × (List Ev) × FrV} (hs : r8remove_s c m evs f = some o) (eb : Nat) (l : CfgAt) (fb fo : Nat)  (B : Nat) (W : World)  : Fn_ Tryz.prog 130 #[vp eb 0, vp fb fo] B W [cP eb c l, memS eb 11 m, evsS eb 20 evs, frS fb fo f] (X := Unit) (fun x => .agg #[.bool (o.1.done), vi o.1.code, vi o.1.value]) (fun x => [cP eb c l, memS eb 11 o.2.1, evsS eb 20 o.2.2.1, frS fb fo o.2.2.2]) := by
 unfold r8remove_s at hs
 refine fe2 Tryz.func130 223 rfl (fun F => ?_)
 refine q2 (rn (al [.bool false, zi, zi]) ?_)
 rintro b1
 refine q1 (cS (ct_open pick4 ?_))
 rintro ⟨A2, c2⟩
 refine cR (zp (mv m2) (zp (nc m0) (zp (fd 1 (fo + 1) m0) (zq (ld fo 1 m0 e0 rfl) (zp (aI m0 .const) (zp (asg m0) (q3 (zp (mv m8) (zp (nc m0) (zp (fd 13 (fo + 13) m0) (zq (ld fo 13 m0 e0 rfl) ?_)))))))))))
 obtain ⟨r3, hr3, hs⟩ := bO_of hs
 refine zq (cq (.cons m0 .nil) (r1unpack_ok hr3  _ _) pn) (zp (mv m0) (zp (op_extract m0 rfl) (zp (op_extract m1 rfl) (zp (op_extract m2 rfl) (zp (asg m2) (zp (asg m2) (zp (asg m2) (q1 (cS (q2 (zp (mv (mU m0)) (zp (nc m0) (zp (fd 1 (fo + 1) m0) (zq (ld fo 1 m0 e0 rfl) (q1 (cB (q2 (zp (eqL m0 .const) (zp (asg m0) (q1 (ci hs m0 (fun h4 hs => ?_) (fun h4 hs => ?_))))))))))))))))))))))
 ·refine q2 (zp (mv (mU m6)) (zp (mv (mU m6)) ?_))
  obtain ⟨r5, hr5, hs⟩ := bF hs
  refine ru (co (.cons m0 (.cons .const .nil)) (eload_ok hr5 eb _ _) (p4 pn)) (zp (op_convI m0 Tryz.underlying50 Tryz.underlying3) (zp (nc m3) (zp (fd 11 (fo + 11) m0) (rz (st1 fo w11 m0 m2 t1) (q3 (zp (mv (mU m12)) (zp (nc m0) (zp (fd 11 (fo + 11) m0) (zq (ld fo 11 m0 e1 rfl) (zp (op_leq m0 .const) (q1 (ci hs m0 (fun h6 hs => ?_) (fun h6 hs => ?_)))))))))))))
  ·refine q2 (zq (cq (.cons .const (.cons .const .nil)) (r8end_ok (o := r8end_s 2 0) rfl  _ _) pn) (rz (sta 0 (mU m16) m0 t3) (q4 (bR (tR (pkE (p2 pn) (tE ro_dup (pkE (p3 pn) (sf ({ f with n := (wi r5.1) } : FrV) ?_)))))))))
   obtain rfl := sI hs
   exact fa (eU e16) e3 (d2 (eP (p1 (p2 (p2 (p1 (p1 pn)))))))
  refine cK (tB (tT (q2 (zp (mv (mU m17)) (zp (mv (mU m10)) (zp (nc m1) (zp (fd 1 (fo + 1) m0) (rz (st1 fo w1 m0 m2 t1) (q3 (zp bz (rz (sta 0 (mU (mU m0)) m0 t3) (q4 (pkE (p2 pn) (tE ro_dup (pkE (p3 pn) (sf ({ f with line := (wi (f.line + 1)), n := (wi r5.1) } : FrV) ?_))))))))))))))))
  obtain rfl := sI hs
  exact fa (eU (eU e0)) e3 (d2 (eP (p1 (p2 (p2 (p1 (p1 pn)))))))
 refine q2 (zp (eqL m2 .const) (zp (asg m0) (q1 (ci hs m0 (fun h7 hs => ?_) (fun h7 hs => ?_)))))
 ·refine cR (zp (mv (mU m8)) (zp (mv (mU m8)) (zp (mv (mU m9)) (zp (nc m0) (zp (fd 0 0 m0) (zq (lda 0 m0 e3) (zq (cq (.cons m0 (.cons .const .nil)) (r6slot_ok (o := r6slot_s c 0) rfl l _ _) pn) ?_)))))))
  obtain ⟨r8, hr8, hs⟩ := bF hs
  refine ru (co (.cons m5 (.cons m0 .nil)) (eload_ok hr8 eb _ _) (p4 pn)) (zp (nc m7) (zp (fd 13 (fo + 13) m0) (rz (st1 fo w13 m0 m2 t1) (rN (tB (tT (q2 (zp (mv (mU m18)) (zp (mv (mU m11)) (zp (nc m1) (zp (fd 1 (fo + 1) m0) (rz (st1 fo w1 m0 m2 t1) (q3 (zp bz (rz (sta 0 (mU (mU m1)) m0 t3) (q4 (pkE (p2 pn) (tE ro_dup (pkE (p3 pn) (sf ({ f with line := (wi (f.line + 1)), u := r8.1 } : FrV) ?_))))))))))))))))))))
  obtain rfl := sI hs
  exact fa (eU (eU e1)) e3 (d2 (eP (p1 (p2 (p2 (p1 (p1 pn)))))))
 refine q2 (zp (eqL m4 .const) (zp (asg m0) (q1 (ci hs m0 (fun h9 hs => ?_) (fun h9 hs => ?_)))))
 ·refine ca 16 ?_
  refine zt 0 rfl (mv (mU m10)) ?_
  refine zt 1 rfl (mv (mU m10)) ?_
  refine zt 2 rfl (mv (mU m11)) ?_
  refine zt 3 rfl (nc m0) ?_
  refine zt 4 rfl (fd 0 0 m0) ?_
  refine zt 6 rfl (mv (mU m15)) ?_
  refine zt 7 rfl (nc m0) ?_
  refine zt 8 rfl (fd 11 (fo + 11) m0) ?_
  refine at_group [5, 9, 10, 11] 4 rfl (by kernel_rfl) rfl ?_
  refine yq (lda 0 m3 e3) (yq (ld fo 11 m1 e0 rfl) (yp (op_subI m0 .const) (yq (cq (.cons m2 (.cons m0 .nil)) (r6slot_ok (o := r6slot_s c (wi (f.n - 1))) rfl l _ _) pn) (qN ?_))))
  obtain ⟨r10, hr10, hs⟩ := bF hs
  refine tu 12 rfl (co (.cons m10 (.cons m0 .nil)) (eload_ok hr10 eb _ _) (p4 pn)) ?_
  refine zt 13 rfl (nc m12) ?_
  refine zt 14 rfl (fd 14 (fo + 14) m0) ?_
  refine tz 15 rfl (st1 fo w14 m0 m2 t1) ?_
  refine zz ?_
  refine tB (tT (q2 (zp (mv (mU (mU m5))) (zp (mv (mU m18)) (zp (nc m1) (zp (fd 1 (fo + 1) m0) (rz (st1 fo w1 m0 m2 t1) (q3 (zp bz (rz (sta 0 (mU (mU m8)) m0 t3) (q4 (pkE (p2 pn) (tE ro_dup (pkE (p3 pn) (sf ({ f with line := (wi (f.line + 1)), v := r10.1 } : FrV) ?_)))))))))))))))
  obtain rfl := sI hs
  exact fa (eU (eU e8)) e3 (d2 (eP (p1 (p2 (p2 (p1 (p1 pn)))))))
 refine q2 (zp (eqL m6 .const) (zp (asg m0) (q1 (ci hs m0 (fun h11 hs => ?_) (fun h11 hs => ?_)))))
 ·refine q2 (zp (mv (mU m11)) (zp (mv (mU m13)) (zp (nc m0) (zp (fd 11 (fo + 11) m0) (zq (ld fo 11 m0 e0 rfl) (zp (op_subI m0 .const) (zp (op_convU m0 Tryz.underlying3 Tryz.underlying50) ?_)))))))
  obtain ⟨r12, hr12, hs⟩ := bF hs
  refine ru (co (.cons m6 (.cons .const (.cons m0 .nil))) (estore_ok hr12 eb _ _) (p4 pn)) (q3 (zp (mv (mU m19)) (zp (mv (mU (mU m1))) (zp (nc m0) (zp (fd 6 (fo + 6) m0) (zq (ld fo 6 m0 e1 rfl) (zp (mv (mU m5)) ?_)))))))
  obtain ⟨r13, hr13, hs⟩ := bO_of hs
  refine ru (co (.cons m5 (.cons .const (.cons m1 (.cons m0 (.cons .const (.cons .const .nil)))))) (eemit_ok hr13 eb _ _) (p5 pn)) (q1 (cS (q2 (zp (mv (mU (mU m7))) (zp (nc m0) (zp (fd 11 (fo + 11) m0) (zq (ld fo 11 m0 e2 rfl) (zp (eqL m0 .const) (q1 (ci hs m0 (fun h14 hs => ?_) (fun h14 hs => ?_)))))))))))
  ·refine q2 (zp (mv (mU m12)) (zq (cq (.cons .const (.cons m0 .nil)) (r8end_ok (o := r8end_s 1 r3.2.2) rfl  _ _) pn) (rz (sta 0 (mU (mU m12)) m0 t4) (q4 (tR (bR (tR (pkE (p3 pn) (tE ro_dup (pkE (p4 pn) (sf f ?_)))))))))))
   obtain rfl := sI hs
   exact fa (eU (eU e12)) e4 (d2 (eP (p1 (p3 (p3 (p2 (p1 pn)))))))
  refine cK (tT (q2 (zp (mv (mU (mU m12))) (zp (nc m0) (zp (fd 9 (fo + 9) m0) (rz (st1 fo w9 m0 .const t2) (q1 (cR (zp (mv (mU (mU m15))) (pkR (p3 pn) (rE ro_dup (pkR (p4 pn) (rE (shut (N := itN frC FrV.l fb fo ({ f with i := 0 } : FrV)) (A2, c2) rfl) (zq (cq (.cons m0 .nil) (r8child_ok (o := r8child_s ({ f with i := 0 } : FrV)) rfl fb fo _ _) (p0 pn)) (zo (asg m0) (pickU (pickU pick9)) (rN (tB (tT (cS (ct_open pick0 ?_))))))))))))))))))))
  rintro ⟨A15, c15⟩
  refine cR (zp (mv (mU (mU m17))) (zp (mv m1) (zp (nc m1) (zp (fd 1 (fo + 1) m0) (rz (st1 fo w1 m0 m2 t0) (q3 (zp bz (rz (sta 0 (mU (mU (mU m0))) m0 t5) (q4 (pkE (p1 pn) (tE ro_dup (pkE (p2 pn) (tE (it_shut (enc := frC) (lst := FrV.l) (x := ({ ({ f with i := 0 } : FrV) with line := (r8child_s ({ f with i := 0 } : FrV)), q := (({ f with i := 0 } : FrV).q) } : FrV)) (A := A15) (c := c15) (by simp [frC])) ?_)))))))))))))
  obtain rfl := sI hs
  exact fa (eU (eU (eU e0))) e5 (d3 (eP (p1 (p1 (p3 (p3 (p2 (p1 pn))))))))
 refine q2 (zp (eqL m8 .const) (zp (asg m0) (q1 (ci hs m0 (fun h16 hs => ?_) (fun h16 hs => ?_)))))
 ·refine q2 (zp (mv (mU m14)) (zp (mv (mU m15)) (zp (nc m0) (zp (fd 9 (fo + 9) m0) (zq (ld fo 9 m0 e0 rfl) (zp (op_mulI .const m0) (zp (aI m0 .const) (zp (nc m6) (zp (fd 10 (fo + 10) m0) (rz (st1 fo w10 m0 m2 t0) (q1 (cS (ca 15 ?_)))))))))))))
  refine zt 0 rfl (mv (mU (mU m3))) ?_
  refine zt 1 rfl (mv (mU (mU m3))) ?_
  refine zt 2 rfl (mv (mU (mU m4))) ?_
  refine zt 3 rfl (nc m0) ?_
  refine zt 4 rfl (fd 0 0 m0) ?_
  refine zt 6 rfl (mv (mU (mU m8))) ?_
  refine zt 7 rfl (nc m0) ?_
  refine zt 8 rfl (fd 10 (fo + 10) m0) ?_
  refine at_group [5, 9, 10] 4 rfl (by kernel_rfl) rfl ?_
  refine yq (lda 0 m3 e3) (yq (ld fo 10 m1 e0 rfl) (yq (cq (.cons m1 (.cons m0 .nil)) (r6slot_ok (o := r6slot_s c (wi ((wi (2 * f.i)) + 1))) rfl l _ _) pn) (qN ?_)))
  obtain ⟨r17, hr17, hs⟩ := bF hs
  refine tu 11 rfl (co (.cons m9 (.cons m0 .nil)) (eload_ok hr17 eb _ _) (p4 pn)) ?_
  refine zt 12 rfl (nc m11) ?_
  refine zt 13 rfl (fd 15 (fo + 15) m0) ?_
  refine tz 14 rfl (st1 fo w15 m0 m2 t1) ?_
  refine zz ?_
  refine tT (cS (ct_draw (by kernel_rfl) (by kernel_rfl) ?_))
  refine yp (mv (mU (mU m17))) (yp (nc m0) (yp (fd 9 (fo + 9) m0) (yq (ld fo 9 m0 e1 rfl) (yp (op_mulI .const m0) (yp (aI m0 .const) (yp (mv (mU (mU (mU m3)))) (yp (nc m0) (yp (fd 11 (fo + 11) m0) (yq (ld fo 11 m0 e1 rfl) (yp (op_subI m0 .const) (yp (op_geq m5 m0) (qN (tT (ci hs m0 (fun h18 hs => ?_) (fun h18 hs => ?_)))))))))))))))
  ·refine cR (zp (mv (mU (mU (mU m9)))) (pkR (p2 pn) (rE ro_dup (pkR (p3 pn) (rE (shut (N := itN frC FrV.l fb fo ({ f with j := (wi ((wi (2 * f.i)) + 1)), w := r17.1 } : FrV)) (A2, c2) rfl) (zq (cq (.cons m0 .nil) (r8lesser_ok (o := r8lesser_s ({ f with j := (wi ((wi (2 * f.i)) + 1)), w := r17.1 } : FrV)) rfl fb fo _ _) (p0 pn)) (zo (asg m0) (pickU (pickU (pickU pick3))) (rN (tB (tT (cS (ct_open pick0 ?_))))))))))))
   rintro ⟨A19, c19⟩
   refine cR (zp (mv (mU (mU (mU m11)))) (zp (mv m1) (zp (nc m1) (zp (fd 1 (fo + 1) m0) (rz (st1 fo w1 m0 m2 t0) (q3 (zp bz (rz (sta 0 (mU (mU (mU m14))) m0 t4) (q4 (pkE (p1 pn) (tE ro_dup (pkE (p2 pn) (tE (it_shut (enc := frC) (lst := FrV.l) (x := ({ ({ f with j := (wi ((wi (2 * f.i)) + 1)), w := r17.1 } : FrV) with line := (r8lesser_s ({ f with j := (wi ((wi (2 * f.i)) + 1)), w := r17.1 } : FrV)), q := (({ f with j := (wi ((wi (2 * f.i)) + 1)), w := r17.1 } : FrV).q) } : FrV)) (A := A19) (c := c19) (by simp [frC])) ?_)))))))))))))
   obtain rfl := sI hs
   exact fa (eU (eU (eU e14))) e4 (d3 (eP (p1 (p1 (p2 (p2 (p1 (p1 pn))))))))
  refine cK (tB (tT (q2 (zp (mv (mU (mU (mU m9)))) (zp (mv (mU (mU (mU m2)))) (zp (nc m1) (zp (fd 1 (fo + 1) m0) (rz (st1 fo w1 m0 m2 t1) (q3 (zp bz (rz (sta 0 (mU (mU (mU m12))) m0 t3) (q4 (pkE (p2 pn) (tE ro_dup (pkE (p3 pn) (sf ({ f with line := (wi (f.line + 1)), j := (wi ((wi (2 * f.i)) + 1)), w := r17.1 } : FrV) ?_))))))))))))))))
  obtain rfl := sI hs
  exact fa (eU (eU (eU e12))) e3 (d2 (eP (p1 (p2 (p2 (p1 (p1 pn)))))))
 refine q2 (zp (eqL m10 .const) (zp (asg m0) (q1 (ci hs m0 (fun h20 hs => ?_) (fun h20 hs => ?_)))))
 ·refine cS (ca 14 ?_)
  refine zt 0 rfl (mv (mU m15)) ?_
  refine zt 1 rfl (mv (mU m16)) ?_
  refine zt 2 rfl (nc m0) ?_
  refine zt 3 rfl (fd 0 0 m0) ?_
  refine zt 5 rfl (mv (mU (mU m0))) ?_
  refine zt 6 rfl (nc m0) ?_
  refine zt 7 rfl (fd 9 (fo + 9) m0) ?_
  refine at_group [4, 8, 9, 10, 11] 2 rfl (by kernel_rfl) rfl ?_
  refine yq (lda 0 m3 e3) (yq (ld fo 9 m1 e0 rfl) (yp (op_mulI .const m0) (yp (aI m0 .const) (yq (cq (.cons m3 (.cons m0 .nil)) (r6slot_ok (o := r6slot_s c (wi ((wi (2 * f.i)) + 2))) rfl l _ _) pn) (qN ?_)))))
  obtain ⟨r21, hr21, hs⟩ := bF hs
  refine tu 12 rfl (co (.cons m11 (.cons m0 .nil)) (eload_ok hr21 eb _ _) (p4 pn)) ?_
  refine zt 13 rfl (asg m0) ?_
  refine zz ?_
  refine tT (cS (q2 (zp (mv m0) (zp (mv (mU (mU m11))) (zp (nc m0) (zp (fd 15 (fo + 15) m0) (zq (ld fo 15 m0 e1 rfl) (zp (op_lss m4 m0) (q1 (ci hs m0 (fun h22 hs => ?_) (fun h22 hs => ?_)))))))))))
  ·refine cR (zp (mv (mU (mU m16))) (zp (mv (mU (mU m17))) (zp (mv m8) (zp (mv (mU (mU m19))) (zp (nc m0) (zp (fd 9 (fo + 9) m0) (zq (ld fo 9 m0 e1 rfl) (zp (op_mulI .const m0) (zp (aI m0 .const) (zp (nc m8) (zp (fd 15 (fo + 15) m0) (rz (st1 fo w15 m0 m8 t1) (zp (nc m9) (zp (fd 10 (fo + 10) m0) (rz (st1 fo w10 m0 m4 t1) (q1 (cR (zp (mv (mU (mU (mU m9)))) (pkR (p2 pn) (rE ro_dup (pkR (p3 pn) (rE (shut (N := itN frC FrV.l fb fo ({ f with j := (wi ((wi (2 * f.i)) + 2)), w := r21.1 } : FrV)) (A2, c2) rfl) (zq (cq (.cons m0 .nil) (r8lesser_ok (o := r8lesser_s ({ f with j := (wi ((wi (2 * f.i)) + 2)), w := r21.1 } : FrV)) rfl fb fo _ _) (p0 pn)) (zo (asg m0) (pickU (pickU (pickU pick3))) (rN (tB (tT (cS (ct_open pick0 ?_)))))))))))))))))))))))))))))
   rintro ⟨A23, c23⟩
   refine cR (zp (mv (mU (mU (mU m11)))) (zp (mv m1) (zp (nc m1) (zp (fd 1 (fo + 1) m0) (rz (st1 fo w1 m0 m2 t0) (q3 (zp bz (rz (sta 0 (mU (mU (mU m14))) m0 t4) (q4 (pkE (p1 pn) (tE ro_dup (pkE (p2 pn) (tE (it_shut (enc := frC) (lst := FrV.l) (x := ({ ({ f with j := (wi ((wi (2 * f.i)) + 2)), w := r21.1 } : FrV) with line := (r8lesser_s ({ f with j := (wi ((wi (2 * f.i)) + 2)), w := r21.1 } : FrV)), q := (({ f with j := (wi ((wi (2 * f.i)) + 2)), w := r21.1 } : FrV).q) } : FrV)) (A := A23) (c := c23) (by simp [frC])) ?_)))))))))))))
   obtain rfl := sI hs
   exact fa (eU (eU (eU e14))) e4 (d3 (eP (p1 (p1 (p2 (p2 (p1 (p1 pn))))))))
  refine cK (tT (cR (zp (mv (mU (mU m16))) (pkR (p2 pn) (rE ro_dup (pkR (p3 pn) (rE (shut (N := itN frC FrV.l fb fo f) (A2, c2) rfl) (zq (cq (.cons m0 .nil) (r8lesser_ok (o := r8lesser_s f) rfl fb fo _ _) (p0 pn)) (zo (asg m0) (pickU (pickU pick10)) (rN (tB (tT (cS (ct_open pick0 ?_))))))))))))))
  rintro ⟨A24, c24⟩
  refine cR (zp (mv (mU (mU m18))) (zp (mv m1) (zp (nc m1) (zp (fd 1 (fo + 1) m0) (rz (st1 fo w1 m0 m2 t0) (q3 (zp bz (rz (sta 0 (mU (mU (mU m1))) m0 t4) (q4 (pkE (p1 pn) (tE ro_dup (pkE (p2 pn) (sf ({ f with line := (r8lesser_s f) } : FrV) ?_)))))))))))))
  obtain rfl := sI hs
  exact fa (eU (eU (eU e1))) e4 (d3 (eP (p1 (p1 (p2 (p2 (p1 (p1 pn))))))))
 refine q2 (zp (eqL m12 .const) (zp (asg m0) (q1 (ci hs m0 (fun h25 hs => ?_) (fun h25 hs => ?_)))))
 ·refine cS (ca 15 ?_)
  refine zt 0 rfl (mv (mU m17)) ?_
  refine zt 1 rfl (mv (mU m18)) ?_
  refine zt 2 rfl (nc m0) ?_
  refine zt 3 rfl (fd 0 0 m0) ?_
  refine zt 5 rfl (mv (mU (mU m2))) ?_
  refine zt 6 rfl (nc m0) ?_
  refine zt 7 rfl (fd 9 (fo + 9) m0) ?_
  refine zt 10 rfl (mv (mU (mU m5))) ?_
  refine zt 11 rfl (nc m0) ?_
  refine zt 12 rfl (fd 15 (fo + 15) m0) ?_
  refine at_group [4, 8, 9, 13] 1 rfl (by kernel_rfl) rfl ?_
  refine yq (lda 0 m6 e3) (yq (ld fo 9 m4 e0 rfl) (yq (cq (.cons m1 (.cons m0 .nil)) (r6slot_ok (o := r6slot_s c f.i) rfl l _ _) pn) (yq (ld fo 15 m3 e0 rfl) (qN ?_))))
  obtain ⟨r26, hr26, hs⟩ := bF hs
  refine tu 14 rfl (co (.cons m13 (.cons m1 (.cons m0 .nil))) (estore_ok hr26 eb _ _) (p4 pn)) ?_
  refine zz ?_
  refine tT (q2 (zp (mv (mU (mU m13))) (zp (mv (mU (mU m14))) (zp (nc m0) (zp (fd 10 (fo + 10) m0) (zq (ld fo 10 m0 e1 rfl) (zp (nc m4) (zp (fd 9 (fo + 9) m0) (rz (st1 fo w9 m0 m2 t1) (q1 (cR (zp (mv (mU (mU (mU m0)))) (pkR (p2 pn) (rE ro_dup (pkR (p3 pn) (rE (shut (N := itN frC FrV.l fb fo ({ f with i := f.j } : FrV)) (A2, c2) rfl) (zq (cq (.cons m0 .nil) (r8child_ok (o := r8child_s ({ f with i := f.j } : FrV)) rfl fb fo _ _) (p0 pn)) (zo (asg m0) (pickU (pickU pick14)) (rN (tB (tT (cS (ct_open pick0 ?_)))))))))))))))))))))))
  rintro ⟨A27, c27⟩
  refine cR (zp (mv (mU (mU (mU m2)))) (zp (mv m1) (zp (nc m1) (zp (fd 1 (fo + 1) m0) (rz (st1 fo w1 m0 m2 t0) (q3 (zp bz (rz (sta 0 (mU (mU (mU m5))) m0 t4) (q4 (pkE (p1 pn) (tE ro_dup (pkE (p2 pn) (tE (it_shut (enc := frC) (lst := FrV.l) (x := ({ ({ f with i := f.j } : FrV) with line := (r8child_s ({ f with i := f.j } : FrV)), q := (({ f with i := f.j } : FrV).q) } : FrV)) (A := A27) (c := c27) (by simp [frC])) ?_)))))))))))))
  obtain rfl := sI hs
  exact fa (eU (eU (eU e5))) e4 (d3 (eP (p1 (p1 (p2 (p2 (p1 (p1 pn))))))))
 refine cS (ca 15 ?_)
 refine zt 0 rfl (mv (mU m17)) ?_
 refine zt 1 rfl (mv (mU m18)) ?_
 refine zt 2 rfl (nc m0) ?_
 refine zt 3 rfl (fd 0 0 m0) ?_
 refine zt 5 rfl (mv (mU (mU m2))) ?_
 refine zt 6 rfl (nc m0) ?_
 refine zt 7 rfl (fd 9 (fo + 9) m0) ?_
 refine zt 10 rfl (mv (mU (mU m5))) ?_
 refine zt 11 rfl (nc m0) ?_
 refine zt 12 rfl (fd 14 (fo + 14) m0) ?_
 refine at_group [4, 8, 9, 13] 1 rfl (by kernel_rfl) rfl ?_
 refine yq (lda 0 m6 e3) (yq (ld fo 9 m4 e0 rfl) (yq (cq (.cons m1 (.cons m0 .nil)) (r6slot_ok (o := r6slot_s c f.i) rfl l _ _) pn) (yq (ld fo 14 m3 e0 rfl) (qN ?_))))
 obtain ⟨r28, hr28, hs⟩ := bF hs
 refine tu 14 rfl (co (.cons m13 (.cons m1 (.cons m0 .nil))) (estore_ok hr28 eb _ _) (p4 pn)) ?_
 refine zz ?_
 refine tT (q2 (zp (mv (mU m13)) (zq (cq (.cons .const (.cons m0 .nil)) (r8end_ok (o := r8end_s 1 r3.2.2) rfl  _ _) pn) (rz (sta 0 (mU (mU m13)) m0 t3) (q4 (bR (tR (pkE (p2 pn) (tE ro_dup (pkE (p3 pn) (sf f ?_)))))))))))
 obtain rfl := sI hs
 exact fa (eU (eU e13)) e3 (d2 (eP (p1 (p2 (p2 (p1 (p1 pn)))))))
def r8claim_s (c : Cfg) (m : MemV) (recs : List RecV) (evs : List Ev) (f : FrV) : Option (ResV × MemV × (List RecV) × (List Ev)) :=
 bT (ecas_s m (r6state_s c f.b) 1 2) fun r3 =>
 if (!r3.1) = true then
  (eemit_s evs 15 f.a f.b 0 0).bind fun r5 =>
  some ((r8end_s 4 0), r3.2, recs, r5)
 else
 if 0 ≤ f.b ∧ f.b < (recs.length : Int) then
 (eemit_s evs (if (at_ recs f.b).started = true then 9 else 5) f.a f.b 0 0).bind fun r11 =>
 some ((r8end_s 1 f.b), r3.2, (st_ recs f.b ({ (at_ recs f.b) with started := true } : RecV)), r11)
 else none
theorem r8claim_ok {o : ResV × MemV × (List RecV) × (List Ev)} (hs : r8claim_s c m recs evs f = some o) (eb : Nat) (l : CfgAt) (RA : Option Addr) (RC : Nat) (fb fo : Nat)  (B : Nat) (W : World)  : Fn_ Tryz.prog 168 #[vp eb 0, vp fb fo] B W [cP eb c l, memS eb 11 m, pts eb 19 [.slice RA recs.length RC], recsS RA RC recs, evsS eb 20 evs, frS fb fo f] (X := Unit) (fun x => .agg #[.bool (o.1.done), vi o.1.code, vi o.1.value]) (fun x => [cP eb c l, memS eb 11 o.2.1, pts eb 19 [.slice RA o.2.2.1.length RC], recsS RA RC o.2.2.1, evsS eb 20 o.2.2.2, frS fb fo f]) := by
 unfold r8claim_s at hs
 refine fe2 Tryz.func168 66 rfl (fun F => ?_)
 refine q2 (rn (al [.bool false, zi, zi]) ?_)
 rintro b1
 refine q1 (cS (cS (ct_open pick6 ?_)))
 rintro ⟨A2, c2⟩
 refine ca 12 ?_
 refine zt 0 rfl (mv m1) ?_
 refine zt 1 rfl (mv m2) ?_
 refine zt 2 rfl (nc m0) ?_
 refine zt 3 rfl (fd 0 0 m0) ?_
 refine zt 5 rfl (mv m6) ?_
 refine zt 6 rfl (nc m0) ?_
 refine zt 7 rfl (fd 7 (fo + 7) m0) ?_
 refine at_group [4, 8, 9] 2 rfl (by kernel_rfl) rfl ?_
 refine yq (lda 0 m3 e3) (yq (ld fo 7 m1 e0 rfl) (yq (cq (.cons m1 (.cons m0 .nil)) (r6state_ok (o := r6state_s c f.b) rfl l _ _) pn) (qN ?_)))
 obtain ⟨r3, hr3, hs⟩ := bF hs
 refine tu 10 rfl (co (.cons m9 (.cons m0 (.cons .const (.cons .const .nil)))) (ecas_ok hr3 eb _ _) (p4 pn)) ?_
 refine zt 11 rfl (op_notb m0) ?_
 refine zz ?_
 refine tT (cj hs m0 (fun h4 hs => ?_) (fun h4 hs => ?_))
 ·refine cS (ca 10 ?_)
  refine zt 0 rfl (mv m13) ?_
  refine zt 1 rfl (mv m15) ?_
  refine zt 2 rfl (nc m0) ?_
  refine zt 3 rfl (fd 6 (fo + 6) m0) ?_
  refine zt 5 rfl (mv m18) ?_
  refine zt 6 rfl (nc m0) ?_
  refine zt 7 rfl (fd 7 (fo + 7) m0) ?_
  refine at_group [4, 8] 1 rfl (by kernel_rfl) rfl ?_
  refine yq (ld fo 6 m3 e1 rfl) (yq (ld fo 7 m1 e1 rfl) (qN ?_))
  obtain ⟨r5, hr5, hs⟩ := bO_of hs
  refine tu 9 rfl (co (.cons m8 (.cons .const (.cons m1 (.cons m0 (.cons .const (.cons .const .nil)))))) (eemit_ok hr5 eb _ _) (p7 pn)) ?_
  refine zz ?_
  refine tT (q2 (zq (cq (.cons .const (.cons .const .nil)) (r8end_ok (o := r8end_s 4 0) rfl  _ _) pn) (rz (sta 0 (mU m3) m0 t4) (q4 (tR (pkE (p3 pn) (tE ro_dup (pkE (p4 pn) (sf f ?_)))))))))
  obtain rfl := sI hs
  exact fa (eU e3) e4 (d2 (eP (p1 (p3 (p3 (p2 (p2 (p2 (p1 pn)))))))))
 refine cK (tT (q2 (zp (asg .const) (q1 (cS (cS (ca 11 ?_)))))))
 refine zt 0 rfl (mv m14) ?_
 refine zt 1 rfl (nc m0) ?_
 refine zt 2 rfl (fd 19 19 m0) ?_
 refine zt 4 rfl (mv m18) ?_
 refine zt 5 rfl (nc m0) ?_
 refine zt 6 rfl (fd 7 (fo + 7) m0) ?_
 refine at_group [3, 7] 3 rfl (by kernel_rfl) rfl ?_
 refine yq (ld 19 0 m3 e5 rfl) (yq (ld fo 7 m1 e1 rfl) (qN ?_))
 obtain ⟨g6, hs⟩ := gO hs
 refine at_focus (f.b).toNat pick6 (by omega) (fun rb7 ro7 hA8 => ?_)
 subst hA8
 rw [at_eq (by omega)]
 refine at_open pick0 ?_
 rintro ⟨A9, c9⟩
 refine za 8 rfl (op_index (i := (f.b).toNat) (o' := ro7 + (f.b).toNat * 7) m1 m0 (by omega) (by omega) (by kernel_rfl) rfl).q ?_
 refine zt 9 rfl (fd 6 (ro7 + (f.b).toNat * 7 + 6) m0) ?_
 refine za 10 rfl (ld (ro7 + (f.b).toNat * 7) 6 m0 e0 rfl) ?_
 refine zz ?_
 refine tT (ct_cut (X := Unit) (fun _ => True) (fun _ => [(5, vi ((if (at_ recs f.b).started = true then 9 else 5))), (4, vp b1 0), (0, vp eb 0), (1, vp fb fo)]) (fun _ => pts rb7 (ro7 + (f.b).toNat * 7) [vi ((at_ recs f.b).prog), vi ((at_ recs f.b).parent), vi ((at_ recs f.b).pc), vi ((at_ recs f.b).left), vi ((at_ recs f.b).waiting), .slice A9 ((at_ recs f.b).kids.length) c9, .bool ((at_ recs f.b).started)] :: roS encInt 1 A9 c9 ((at_ recs f.b).kids) :: holeI recC RecV.kids 7 rb7 ro7 RC recs ((f.b).toNat) :: memS eb 11 r3.2 :: pts fb fo [vi f.kind, vi f.line, vi f.q.top, vi f.q.bottom, vi f.q.ring, vi f.q.cap, vi f.a, vi f.b, vi f.d, vi f.i, vi f.j, vi f.n, vi f.t, vu f.u, vu f.v, vu f.w, vu f.x, .slice A2 f.l.length c2] :: roS encInt 1 A2 c2 f.l :: pts b1 0 [.bool false, zi, zi] :: cP eb c l :: pts eb 19 [.slice (some ⟨rb7, ro7, none⟩) recs.length RC] :: evsS eb 20 evs :: [F]) ?_ (fun _ _ => (?_ : CT _ _ _ _ _ _ _ _ _)))
 ·refine ct_ifb m0 (fun h10 => ?_) (fun h10 => ?_)
  ·exact cR (zo (asg .const) pick11 (rN (et_cut () trivial (.cons e0 (by simp only [eq_true h10, ↓reduceIte, reduceCtorEq, bS]) (lc (eU e4) (lc (eU e5) (lc (eU e6) .nil)))) Ent.refl)))
  exact cK (et_cut () trivial (.cons e11 (by simp only [eq_false (bne_t h10), ↓reduceIte, reduceCtorEq, bS]) (lc (eU e4) (lc (eU e5) (lc (eU e6) .nil)))) Ent.refl)
 refine cS (ca 11 ?_)
 refine zt 0 rfl (mv m2) ?_
 refine zt 1 rfl (nc m0) ?_
 refine zt 2 rfl (fd 19 19 m0) ?_
 refine zt 4 rfl (mv m6) ?_
 refine zt 5 rfl (nc m0) ?_
 refine zt 6 rfl (fd 7 (fo + 7) m0) ?_
 refine at_group [3, 7] 3 rfl (by kernel_rfl) rfl ?_
 refine yq (ld 19 0 m3 e8 rfl) (yq (ld fo 7 m1 e4 rfl) (qN (za 8 rfl (op_index (i := (f.b).toNat) (o' := ro7 + (f.b).toNat * 7) m1 m0 (by omega) (by have := g6; simp only [List.length_set] at *; omega) (by kernel_rfl) rfl).q ?_)))
 refine zt 9 rfl (fd 6 (ro7 + (f.b).toNat * 7 + 6) m0) ?_
 refine tz 10 rfl (st1 (ro7 + (f.b).toNat * 7) w6 m0 .const t0) ?_
 refine zz ?_
 refine tT (cS (ca 11 ?_))
 refine zt 0 rfl (mv m12) ?_
 refine zt 1 rfl (mv m11) ?_
 refine zt 2 rfl (mv m15) ?_
 refine zt 3 rfl (nc m0) ?_
 refine zt 4 rfl (fd 6 (fo + 6) m0) ?_
 refine zt 6 rfl (mv m18) ?_
 refine zt 7 rfl (nc m0) ?_
 refine zt 8 rfl (fd 7 (fo + 7) m0) ?_
 refine at_group [5, 9] 1 rfl (by kernel_rfl) rfl ?_
 refine yq (ld fo 6 m3 e4 rfl) (yq (ld fo 7 m1 e4 rfl) (qN ?_))
 obtain ⟨r11, hr11, hs⟩ := bO_of hs
 refine tu 10 rfl (co (.cons m9 (.cons m8 (.cons m1 (.cons m0 (.cons .const (.cons .const .nil)))))) (eemit_ok hr11 eb _ _) (p9 pn)) ?_
 refine zz ?_
 refine tT (q2 (zp (mv (mU m4)) (zp (nc m0) (zp (fd 7 (fo + 7) m0) (zq (ld fo 7 m0 e5 rfl) (zq (cq (.cons .const (.cons m0 .nil)) (r8end_ok (o := r8end_s 1 f.b) rfl  _ _) pn) (rz (sta 0 (mU m7) m0 t7) (q4 (pkE (p2 pn) (tE ro_dup (pkE (p3 pn) (sr ({ (at_ recs f.b) with started := true } : RecV) ?_))))))))))))
 refine pkE (p0 (p2 pn)) (tE (unfocus_st (xs := recs) (by have := g6; omega)) (pkE (p8 pn) (tE (ent_rs (m' := (st_ recs f.b ({ (at_ recs f.b) with started := true } : RecV)).length) (by simp [st_])) (pkE (p6 pn) (tE ro_dup (pkE (p7 pn) (sf f ?_)))))))
 obtain rfl := sI hs
 exact fa (eU e7) e7 (d3 (eP (p1 (p3 (p5 (p5 (p4 (p1 (p1 (p1 pn))))))))))
def r8table_s (c : Cfg) (m : MemV) (now : Int) (recs : List RecV) (evs : List Ev) (f : FrV) : Option (ResV × MemV × (List RecV) × (List Ev) × FrV) :=
 if f.kind = 12 then
  bT (eadd_s m 0 1) fun r4 =>
  if (etask_s c recs (wi r4.1)) = true then
   some ((r8end_s 1 (wi r4.1)), r4.2, recs, evs, f)
  else
  some ((r8end_s 3 0), r4.2, recs, evs, f)
 else
 if f.kind = 14 then
  (r8claim_s c m recs evs f).bind fun r7 =>
  some (r7.1, r7.2.1, r7.2.2.1, r7.2.2.2, f)
 else
 if (!(etask_s c recs (ftaskof_s f))) = true then
  some ((r8end_s 4 0), m, recs, evs, f)
 else
 if f.kind = 13 then
  if f.line = 1 then
   bT (estore_s m (r6level_s c f.a) (wu f.b)) fun r13 =>
   some ((⟨false, 0, 0⟩ : ResV), r13, recs, evs, ({ f with line := (wi (f.line + 1)) } : FrV))
  else
  if f.line = 2 then
   bT (estore_s m (r6since_s c f.a) (wu now)) fun r15 =>
   some ((⟨false, 0, 0⟩ : ResV), r15, recs, evs, ({ f with line := (wi (f.line + 1)) } : FrV))
  else
  bT (estore_s m (r6state_s c f.a) 1) fun r16 =>
  some ((r8end_s 0 0), r16, recs, evs, f)
 else
 if f.line = 1 then
  bT (estore_s m (r6since_s c f.b) (wu now)) fun r18 =>
  some ((⟨false, 0, 0⟩ : ResV), r18, recs, evs, ({ f with line := (wi (f.line + 1)) } : FrV))
 else
 if f.line = 2 then
  bT (estore_s m (r6state_s c f.b) 1) fun r20 =>
  some ((⟨false, 0, 0⟩ : ResV), r20, recs, evs, ({ f with line := (wi (f.line + 1)) } : FrV))
 else
 bT (eload_s m (r6level_s c f.b)) fun r21 =>
 some ((⟨false, 0, 0⟩ : ResV), r21.2, recs, evs, ({ f with line := (wi (f.line + 1)), t := (wi r21.1) } : FrV))
theorem r8table_ok {o : ResV × MemV × (List RecV) × (List Ev) × FrV} (hs : r8table_s c m now recs evs f = some o) (eb : Nat) (l : CfgAt) (RA : Option Addr) (RC : Nat) (fb fo : Nat)  (B : Nat) (W : World)  : Fn_ Tryz.prog 131 #[vp eb 0, vp fb fo] B W [cP eb c l, memS eb 11 m, pts eb 17 [vi now], pts eb 19 [.slice RA recs.length RC], recsS RA RC recs, evsS eb 20 evs, frS fb fo f] (X := Unit) (fun x => .agg #[.bool (o.1.done), vi o.1.code, vi o.1.value]) (fun x => [cP eb c l, memS eb 11 o.2.1, pts eb 17 [vi now], pts eb 19 [.slice RA o.2.2.1.length RC], recsS RA RC o.2.2.1, evsS eb 20 o.2.2.2.1, frS fb fo o.2.2.2.2]) := by
 unfold r8table_s at hs
 refine fe2 Tryz.func131 155 rfl (fun F => ?_)
 refine q2 (rn (al [.bool false, zi, zi]) ?_)
 rintro b1
 refine q1 (cS (cS (ct_open pick7 ?_)))
 rintro ⟨A2, c2⟩
 refine cR (zp (mv m2) (zp (nc m0) (zp (fd 0 fo m0) (zq (ld fo 0 m0 e0 rfl) (q1 (cB (q2 (zp (eqL m0 .const) (zp (asg m0) (q1 (ci hs m0 (fun h3 hs => ?_) (fun h3 hs => ?_))))))))))))
 ·refine cS (q2 (zp (mv m7) ?_))
  obtain ⟨r4, hr4, hs⟩ := bF hs
  refine ru (co (.cons m0 (.cons .const (.cons .const .nil))) (eadd_ok hr4 eb _ _) (p4 pn)) (zp (op_convI m0 Tryz.underlying50 Tryz.underlying3) (zp (asg m0) (q3 (zp (mv m11) (zp (mv m1) (zq (cq (.cons m1 (.cons m0 .nil)) (etask_ok (o := etask_s c recs (wi r4.1)) rfl eb l RA RC _ _) (p4 (p5 pn))) (q1 (cj hs m0 (fun h5 hs => ?_) (fun h5 hs => ?_)))))))))
  ·refine q2 (zp (mv m3) (zq (cq (.cons .const (.cons m0 .nil)) (r8end_ok (o := r8end_s 1 (wi r4.1)) rfl  _ _) pn) (rz (sta 0 m15 m0 t3) (q4 (tR (bR (tR (pkE (p2 pn) (tE ro_dup (pkE (p3 pn) (sf f ?_)))))))))))
   obtain rfl := sI hs
   exact fa e15 e3 (d2 (eP (p1 (p2 (p2 (p1 (p1 (p1 (p1 (p1 pn))))))))))
  refine cK (tT (q2 (zq (cq (.cons .const (.cons .const .nil)) (r8end_ok (o := r8end_s 3 0) rfl  _ _) pn) (rz (sta 0 m14 m0 t3) (q4 (bR (tR (pkE (p2 pn) (tE ro_dup (pkE (p3 pn) (sf f ?_)))))))))))
  obtain rfl := sI hs
  exact fa e14 e3 (d2 (eP (p1 (p2 (p2 (p1 (p1 (p1 (p1 (p1 pn))))))))))
 refine q2 (zp (eqL m2 .const) (zp (asg m0) (q1 (ci hs m0 (fun h6 hs => ?_) (fun h6 hs => ?_)))))
 ·refine q2 (zp (mv m9) (zp (mv m11) (pkR (p1 pn) (rE ro_dup (pkR (p2 pn) (rE (shut (N := itN frC FrV.l fb fo f) (A2, c2) rfl) ?_))))))
  obtain ⟨r7, hr7, hs⟩ := bO_of hs
  refine ru (co (.cons m1 (.cons m0 .nil)) (r8claim_ok hr7 eb l RA RC fb fo _ _) (p3 (p3 (p4 (p4 (p4 (p0 pn))))))) (rz (sta 0 m11 m0 t7) (q4 (bR (tR ?_))))
  obtain rfl := sI hs
  exact fa e11 e7 (d2 (eP (p6 (p6 (p0 (p0 (p4 pn)))))))
 refine cK (tB (tT (cS (q2 (zp (mv m9) (zp (mv m11) (pkR (p1 pn) (rE ro_dup (pkR (p2 pn) (rE (shut (N := itN frC FrV.l fb fo f) (A2, c2) rfl) (zq (cq (.cons m0 .nil) (ftaskof_ok (o := ftaskof_s f) rfl fb fo _ _) (p0 pn)) (zq (cq (.cons m2 (.cons m0 .nil)) (etask_ok (o := etask_s c recs (ftaskof_s f)) rfl eb l RA RC _ _) (p3 (p5 pn))) (zp (op_notb m0) (q1 (cj hs m0 (fun h8 hs => ?_) (fun h8 hs => ?_))))))))))))))))
 ·refine cS (ct_open pick0 ?_)
  rintro ⟨A9, c9⟩
  refine cR (zq (cq (.cons .const (.cons .const .nil)) (r8end_ok (o := r8end_s 4 0) rfl  _ _) pn) (rz (sta 0 m14 m0 t3) (q4 (tR (pkE (p1 pn) (tE ro_dup (pkE (p2 pn) (sf f ?_))))))))
  obtain rfl := sI hs
  exact fa e14 e3 (d3 (eP (p1 (p1 (p1 (p1 (p1 (p1 (p1 (p1 (p1 pn)))))))))))
 refine cK (tT (cS (cS (ct_open pick0 ?_))))
 rintro ⟨A10, c10⟩
 refine cR (zp (mv m15) (zp (nc m0) (zp (fd 0 fo m0) (zq (ld fo 0 m0 e0 rfl) (zp (eqL m0 .const) (q1 (ci hs m0 (fun h11 hs => ?_) (fun h11 hs => ?_))))))))
 ·refine cS (q2 (zp (mv (mU m0)) (zp (nc m0) (zp (fd 1 (fo + 1) m0) (zq (ld fo 1 m0 e0 rfl) (q1 (cB (q2 (zp (eqL m0 .const) (zp (asg m0) (q1 (ci hs m0 (fun h12 hs => ?_) (fun h12 hs => ?_)))))))))))))
  ·refine ca 16 ?_
   refine zt 0 rfl (mv (mU m5)) ?_
   refine zt 1 rfl (mv (mU m6)) ?_
   refine zt 2 rfl (nc m0) ?_
   refine zt 3 rfl (fd 0 0 m0) ?_
   refine zt 5 rfl (mv (mU m10)) ?_
   refine zt 6 rfl (nc m0) ?_
   refine zt 7 rfl (fd 6 (fo + 6) m0) ?_
   refine zt 10 rfl (mv (mU m13)) ?_
   refine zt 11 rfl (nc m0) ?_
   refine zt 12 rfl (fd 7 (fo + 7) m0) ?_
   refine at_group [4, 8, 9, 13, 14] 1 rfl (by kernel_rfl) rfl ?_
   refine yq (lda 0 m6 e4) (yq (ld fo 6 m4 e0 rfl) (yq (cq (.cons m1 (.cons m0 .nil)) (r6level_ok (o := r6level_s c f.a) rfl l _ _) pn) (yq (ld fo 7 m3 e0 rfl) (yp (op_convU m0 Tryz.underlying3 Tryz.underlying50) (qN ?_)))))
   obtain ⟨r13, hr13, hs⟩ := bF hs
   refine tu 15 rfl (co (.cons m14 (.cons m2 (.cons m0 .nil))) (estore_ok hr13 eb _ _) (p5 pn)) ?_
   refine zz ?_
   refine tB (tT (q2 (zp (mv (mU (mU m2))) (zp (nc m0) (zp (fd 1 (fo + 1) m0) (zq (ld fo 1 m0 e1 rfl) (zp (aI m0 .const) (zp (nc m4) (zp (fd 1 (fo + 1) m0) (rz (st1 fo w1 m0 m2 t1) (q3 (zp bz (rz (sta 0 (mU (mU m8)) m0 t4) (q4 (tR (pkE (p2 pn) (tE ro_dup (pkE (p3 pn) (sf ({ f with line := (wi (f.line + 1)) } : FrV) ?_)))))))))))))))))))
   obtain rfl := sI hs
   exact fa (eU (eU e8)) e4 (d3 (eP (p1 (p2 (p2 (p2 (p1 (p1 (p1 (p1 (p1 pn)))))))))))
  refine q2 (zp (eqL m2 .const) (zp (asg m0) (q1 (ci hs m0 (fun h14 hs => ?_) (fun h14 hs => ?_)))))
  ·refine ca 16 ?_
   refine zt 0 rfl (mv (mU m7)) ?_
   refine zt 1 rfl (mv (mU m8)) ?_
   refine zt 2 rfl (nc m0) ?_
   refine zt 3 rfl (fd 0 0 m0) ?_
   refine zt 5 rfl (mv (mU m12)) ?_
   refine zt 6 rfl (nc m0) ?_
   refine zt 7 rfl (fd 6 (fo + 6) m0) ?_
   refine zt 10 rfl (mv (mU m14)) ?_
   refine zt 11 rfl (nc m0) ?_
   refine zt 12 rfl (fd 17 17 m0) ?_
   refine at_group [4, 8, 9, 13, 14] 1 rfl (by kernel_rfl) rfl ?_
   refine yq (lda 0 m6 e4) (yq (ld fo 6 m4 e0 rfl) (yq (cq (.cons m1 (.cons m0 .nil)) (r6since_ok (o := r6since_s c f.a) rfl l _ _) pn) (yq (ld 17 0 m3 e6 rfl) (yp (op_convU m0 Tryz.underlying3 Tryz.underlying50) (qN ?_)))))
   obtain ⟨r15, hr15, hs⟩ := bF hs
   refine tu 15 rfl (co (.cons m14 (.cons m2 (.cons m0 .nil))) (estore_ok hr15 eb _ _) (p5 pn)) ?_
   refine zz ?_
   refine tB (tT (q2 (zp (mv (mU (mU m4))) (zp (nc m0) (zp (fd 1 (fo + 1) m0) (zq (ld fo 1 m0 e1 rfl) (zp (aI m0 .const) (zp (nc m4) (zp (fd 1 (fo + 1) m0) (rz (st1 fo w1 m0 m2 t1) (q3 (zp bz (rz (sta 0 (mU (mU m10)) m0 t4) (q4 (tR (pkE (p2 pn) (tE ro_dup (pkE (p3 pn) (sf ({ f with line := (wi (f.line + 1)) } : FrV) ?_)))))))))))))))))))
   obtain rfl := sI hs
   exact fa (eU (eU e10)) e4 (d3 (eP (p1 (p2 (p2 (p2 (p1 (p1 (p1 (p1 (p1 pn)))))))))))
  refine cS (ca 11 ?_)
  refine zt 0 rfl (mv (mU m7)) ?_
  refine zt 1 rfl (mv (mU m8)) ?_
  refine zt 2 rfl (nc m0) ?_
  refine zt 3 rfl (fd 0 0 m0) ?_
  refine zt 5 rfl (mv (mU m12)) ?_
  refine zt 6 rfl (nc m0) ?_
  refine zt 7 rfl (fd 6 (fo + 6) m0) ?_
  refine at_group [4, 8, 9] 1 rfl (by kernel_rfl) rfl ?_
  refine yq (lda 0 m3 e4) (yq (ld fo 6 m1 e0 rfl) (yq (cq (.cons m1 (.cons m0 .nil)) (r6state_ok (o := r6state_s c f.a) rfl l _ _) pn) (qN ?_)))
  obtain ⟨r16, hr16, hs⟩ := bF hs
  refine tu 10 rfl (co (.cons m9 (.cons m0 (.cons .const .nil))) (estore_ok hr16 eb _ _) (p5 pn)) ?_
  refine zz ?_
  refine tT (q2 (zq (cq (.cons .const (.cons .const .nil)) (r8end_ok (o := r8end_s 0 0) rfl  _ _) pn) (rz (sta 0 (mU m18) m0 t4) (q4 (bR (tR (tR (pkE (p2 pn) (tE ro_dup (pkE (p3 pn) (sf f ?_)))))))))))
  obtain rfl := sI hs
  exact fa (eU e18) e4 (d3 (eP (p1 (p2 (p2 (p2 (p1 (p1 (p1 (p1 (p1 pn)))))))))))
 refine cK (tT (cS (q2 (zp (mv (mU m0)) (zp (nc m0) (zp (fd 1 (fo + 1) m0) (zq (ld fo 1 m0 e0 rfl) (q1 (cB (q2 (zp (eqL m0 .const) (zp (asg m0) (q1 (ci hs m0 (fun h17 hs => ?_) (fun h17 hs => ?_)))))))))))))))
 ·refine ca 16 ?_
  refine zt 0 rfl (mv (mU m5)) ?_
  refine zt 1 rfl (mv (mU m6)) ?_
  refine zt 2 rfl (nc m0) ?_
  refine zt 3 rfl (fd 0 0 m0) ?_
  refine zt 5 rfl (mv (mU m10)) ?_
  refine zt 6 rfl (nc m0) ?_
  refine zt 7 rfl (fd 7 (fo + 7) m0) ?_
  refine zt 10 rfl (mv (mU m12)) ?_
  refine zt 11 rfl (nc m0) ?_
  refine zt 12 rfl (fd 17 17 m0) ?_
  refine at_group [4, 8, 9, 13, 14] 1 rfl (by kernel_rfl) rfl ?_
  refine yq (lda 0 m6 e4) (yq (ld fo 7 m4 e0 rfl) (yq (cq (.cons m1 (.cons m0 .nil)) (r6since_ok (o := r6since_s c f.b) rfl l _ _) pn) (yq (ld 17 0 m3 e6 rfl) (yp (op_convU m0 Tryz.underlying3 Tryz.underlying50) (qN ?_)))))
  obtain ⟨r18, hr18, hs⟩ := bF hs
  refine tu 15 rfl (co (.cons m14 (.cons m2 (.cons m0 .nil))) (estore_ok hr18 eb _ _) (p5 pn)) ?_
  refine zz ?_
  refine tB (tT (q2 (zp (mv (mU (mU m2))) (zp (nc m0) (zp (fd 1 (fo + 1) m0) (zq (ld fo 1 m0 e1 rfl) (zp (aI m0 .const) (zp (nc m4) (zp (fd 1 (fo + 1) m0) (rz (st1 fo w1 m0 m2 t1) (q3 (zp bz (rz (sta 0 (mU (mU m8)) m0 t4) (q4 (pkE (p2 pn) (tE ro_dup (pkE (p3 pn) (sf ({ f with line := (wi (f.line + 1)) } : FrV) ?_))))))))))))))))))
  obtain rfl := sI hs
  exact fa (eU (eU e8)) e4 (d3 (eP (p1 (p2 (p2 (p2 (p1 (p1 (p1 (p1 (p1 pn)))))))))))
 refine q2 (zp (eqL m2 .const) (zp (asg m0) (q1 (ci hs m0 (fun h19 hs => ?_) (fun h19 hs => ?_)))))
 ·refine ca 11 ?_
  refine zt 0 rfl (mv (mU m7)) ?_
  refine zt 1 rfl (mv (mU m8)) ?_
  refine zt 2 rfl (nc m0) ?_
  refine zt 3 rfl (fd 0 0 m0) ?_
  refine zt 5 rfl (mv (mU m12)) ?_
  refine zt 6 rfl (nc m0) ?_
  refine zt 7 rfl (fd 7 (fo + 7) m0) ?_
  refine at_group [4, 8, 9] 1 rfl (by kernel_rfl) rfl ?_
  refine yq (lda 0 m3 e4) (yq (ld fo 7 m1 e0 rfl) (yq (cq (.cons m1 (.cons m0 .nil)) (r6state_ok (o := r6state_s c f.b) rfl l _ _) pn) (qN ?_)))
  obtain ⟨r20, hr20, hs⟩ := bF hs
  refine tu 10 rfl (co (.cons m9 (.cons m0 (.cons .const .nil))) (estore_ok hr20 eb _ _) (p5 pn)) ?_
  refine zz ?_
  refine tB (tT (q2 (zp (mv (mU m19)) (zp (nc m0) (zp (fd 1 (fo + 1) m0) (zq (ld fo 1 m0 e1 rfl) (zp (aI m0 .const) (zp (nc m4) (zp (fd 1 (fo + 1) m0) (rz (st1 fo w1 m0 m2 t1) (q3 (zp bz (rz (sta 0 (mU (mU m5)) m0 t4) (q4 (pkE (p2 pn) (tE ro_dup (pkE (p3 pn) (sf ({ f with line := (wi (f.line + 1)) } : FrV) ?_))))))))))))))))))
  obtain rfl := sI hs
  exact fa (eU (eU e5)) e4 (d3 (eP (p1 (p2 (p2 (p2 (p1 (p1 (p1 (p1 (p1 pn)))))))))))
 refine ca 16 ?_
 refine zt 0 rfl (mv (mU m8)) ?_
 refine zt 1 rfl (mv (mU m8)) ?_
 refine zt 2 rfl (mv (mU m9)) ?_
 refine zt 3 rfl (nc m0) ?_
 refine zt 4 rfl (fd 0 0 m0) ?_
 refine zt 6 rfl (mv (mU m13)) ?_
 refine zt 7 rfl (nc m0) ?_
 refine zt 8 rfl (fd 7 (fo + 7) m0) ?_
 refine at_group [5, 9, 10] 5 rfl (by kernel_rfl) rfl ?_
 refine yq (lda 0 m3 e4) (yq (ld fo 7 m1 e0 rfl) (yq (cq (.cons m1 (.cons m0 .nil)) (r6level_ok (o := r6level_s c f.b) rfl l _ _) pn) (qN ?_)))
 obtain ⟨r21, hr21, hs⟩ := bF hs
 refine tu 11 rfl (co (.cons m9 (.cons m0 .nil)) (eload_ok hr21 eb _ _) (p5 pn)) ?_
 refine zt 12 rfl (op_convI m0 Tryz.underlying50 Tryz.underlying3) ?_
 refine zt 13 rfl (nc m12) ?_
 refine zt 14 rfl (fd 12 (fo + 12) m0) ?_
 refine tz 15 rfl (st1 fo w12 m0 m2 t1) ?_
 refine zz ?_
 refine tB (tT (q2 (zp (mv (mU (mU m3))) (zp (nc m0) (zp (fd 1 (fo + 1) m0) (zq (ld fo 1 m0 e1 rfl) (zp (aI m0 .const) (zp (nc m4) (zp (fd 1 (fo + 1) m0) (rz (st1 fo w1 m0 m2 t1) (q3 (zp bz (rz (sta 0 (mU (mU m9)) m0 t4) (q4 (pkE (p2 pn) (tE ro_dup (pkE (p3 pn) (sf ({ f with line := (wi (f.line + 1)), t := (wi r21.1) } : FrV) ?_))))))))))))))))))
 obtain rfl := sI hs
 exact fa (eU (eU e9)) e4 (d3 (eP (p1 (p2 (p2 (p2 (p1 (p1 (p1 (p1 (p1 pn)))))))))))
def r8boost_s (c : Cfg) (m : MemV) (recs : List RecV) (evs : List Ev) (f : FrV) : Option (ResV × MemV × (List Ev) × FrV) :=
 if ((!(etask_s c recs f.b)) = true) ∨ ((f.d < 0) ∨ (c.levels ≤ f.d)) then
  some ((r8end_s 4 0), m, evs, f)
 else
 if f.kind = 16 then
  if f.line = 1 then
   bT (eload_s m (r6level_s c f.b)) fun r8 =>
   if f.d ≤ (wi r8.1) then
    some ((r8end_s 0 0), r8.2, evs, ({ f with u := r8.1 } : FrV))
   else
   some ((⟨false, 0, 0⟩ : ResV), r8.2, evs, ({ f with line := 2, u := r8.1 } : FrV))
  else
  bT (ecas_s m (r6level_s c f.b) f.u (wu f.d)) fun r10 =>
  if r10.1 = true then
   (eemit_s evs 11 f.a f.b 0 f.d).bind fun r12 =>
   some ((r8end_s 1 0), r10.2, r12, f)
  else
  some ((⟨false, 0, 0⟩ : ResV), r10.2, evs, ({ f with line := 1 } : FrV))
 else
 if f.line = 2 then
  bT (eload_s m (r6state_s c f.b)) fun r14 =>
  if r14.1 = 1 then
   some ((⟨false, 0, 0⟩ : ResV), r14.2, evs, ({ f with line := 3 } : FrV))
  else
  some ((⟨false, 0, 0⟩ : ResV), r14.2, evs, ({ f with line := 4 } : FrV))
 else
 bT (eload_s m (r6waits_s c f.b)) fun r16 =>
 if r16.1 = 0 then
  some ((r8end_s 0 0), r16.2, evs, f)
 else
 some ((⟨false, 0, 0⟩ : ResV), r16.2, evs, ({ f with line := 1, b := (wi (wu (r16.1 - 1))) } : FrV))
theorem r8boost_ok {o : ResV × MemV × (List Ev) × FrV} (hs : r8boost_s c m recs evs f = some o) (eb : Nat) (l : CfgAt) (RA : Option Addr) (RC : Nat) (fb fo : Nat)  (B : Nat) (W : World)  : Fn_ Tryz.prog 132 #[vp eb 0, vp fb fo] B W [cP eb c l, memS eb 11 m, pts eb 19 [.slice RA recs.length RC], evsS eb 20 evs, frS fb fo f] (X := Unit) (fun x => .agg #[.bool (o.1.done), vi o.1.code, vi o.1.value]) (fun x => [cP eb c l, memS eb 11 o.2.1, pts eb 19 [.slice RA recs.length RC], evsS eb 20 o.2.2.1, frS fb fo o.2.2.2]) := by
 unfold r8boost_s at hs
 refine fe2 Tryz.func132 159 rfl (fun F => ?_)
 refine q2 (rn (al [.bool false, zi, zi]) ?_)
 rintro b1
 refine q1 (cS (cS (ct_open pick5 ?_)))
 rintro ⟨A2, c2⟩
 refine ct_cut (X := Unit) (fun _ => True) (fun _ => [(31, .bool (decide (((!(etask_s c recs f.b)) = true) ∨ ((f.d < 0) ∨ (c.levels ≤ f.d))))), (4, vp b1 0), (0, vp eb 0), (1, vp fb fo)]) (fun _ => pts fb fo [vi f.kind, vi f.line, vi f.q.top, vi f.q.bottom, vi f.q.ring, vi f.q.cap, vi f.a, vi f.b, vi f.d, vi f.i, vi f.j, vi f.n, vi f.t, vu f.u, vu f.v, vu f.w, vu f.x, .slice A2 f.l.length c2] :: roS encInt 1 A2 c2 f.l :: pts b1 0 [.bool false, zi, zi] :: cP eb c l :: memS eb 11 m :: pts eb 19 [.slice RA recs.length RC] :: evsS eb 20 evs :: [F]) ?_ (fun _ _ => (?_ : CT _ _ _ _ _ _ _ _ _))
 ·refine ct_draw (by kernel_rfl) (by kernel_rfl) ?_
  refine yp (mv m1) (yp (mv m3) (yp (nc m0) (yp (fd 7 (fo + 7) m0) (yq (ld fo 7 m0 e0 rfl) (yq (cq (.cons m4 (.cons m0 .nil)) (etask_ok (o := etask_s c recs f.b) rfl eb l RA RC _ _) (p3 (p4 pn))) (yp (op_notb m0) (yp (mv m0) (qt_caseb t0 t0 (fun h3 => ?_) (fun h3 => ?_)))))))))
  ·exact yk rfl rfl e0 (yk rfl rfl e1 (yk rfl rfl e2 (yk rfl rfl e3 (yk rfl rfl e4 (yp (op_pick (b := true) m5 .const) (yp (mv m0) (yk rfl rfl e0 (yk rfl rfl e1 (yk rfl rfl e2 (yk rfl rfl e3 (yk rfl rfl e4 (yk rfl rfl e5 (yk rfl rfl e6 (yk rfl rfl e7 (yk rfl rfl e8 (yk rfl rfl e9 (yp (op_pick (b := true) m10 .const) (qN (et_cut () trivial (.cons e0 (by simp only [eq_true h3, ↓reduceIte, reduceCtorEq, bS]) (lc (eU e6) (lc (eU e7) (lc (eU e8) .nil)))) Ent.refl)))))))))))))))))))
  refine yw (mv m10).q rfl rfl e0 (yw (nc m0).q rfl rfl e1 (yw (fd 8 (fo + 8) m0).q rfl rfl e2 (yw (ld fo 8 m0 e0 rfl) rfl rfl e3 (yw (op_lss m0 .const).q rfl rfl e4 (yp (op_pick (b := false) m5 m0) (yp (mv m0) (qt_case t0 t0 (fun h4 => ?_) (fun h4 => ?_))))))))
  ·exact yk rfl rfl e0 (yk rfl rfl e1 (yk rfl rfl e2 (yk rfl rfl e3 (yk rfl rfl e4 (yk rfl rfl e5 (yk rfl rfl e6 (yk rfl rfl e7 (yk rfl rfl e8 (yk rfl rfl e9 (yp (op_pick (b := true) m10 .const) (qN (et_cut () trivial (.cons e0 (by simp only [eq_false (bne_t h3), eq_true h4, ↓reduceIte, reduceCtorEq, bS]) (lc (eU e6) (lc (eU e7) (lc (eU e8) .nil)))) Ent.refl))))))))))))
  exact yw (mv m17).q rfl rfl e0 (yw (nc m0).q rfl rfl e1 (yw (fd 8 (fo + 8) m0).q rfl rfl e2 (yw (ld fo 8 m0 e0 rfl) rfl rfl e3 (yw (mv (mU m0)).q rfl rfl e4 (yw (nc m0).q rfl rfl e5 (yw (fd 0 0 m0).q rfl rfl e6 (yw (fd 1 1 m0).q rfl rfl e7 (yw (ld 0 1 m0 e3 rfl) rfl rfl e8 (yw (op_geq m5 m0).q rfl rfl e9 (yp (op_pick (b := false) m10 m0) (qN (et_cut () trivial (.cons e0 (by simp only [eq_false (bne_t h3), eq_false h4, ↓reduceIte, reduceCtorEq, bS]) (lc (eU e6) (lc (eU e7) (lc (eU e8) .nil)))) Ent.refl))))))))))))
 refine ci hs m0 (fun h5 hs => ?_) (fun h5 hs => ?_)
 ·refine q2 (zq (cq (.cons .const (.cons .const .nil)) (r8end_ok (o := r8end_s 4 0) rfl  _ _) pn) (rz (sta 0 m2 m0 t2) (q4 (tR (pkE (p1 pn) (tE ro_dup (pkE (p2 pn) (sf f ?_))))))))
  obtain rfl := sI hs
  exact fa e2 e2 (d2 (eP (p1 (p1 (p1 (p1 (p1 (p1 pn))))))))
 refine cK (tT (cS (q2 (zp (mv m3) (zp (nc m0) (zp (fd 0 fo m0) (zq (ld fo 0 m0 e0 rfl) (zp (eqL m0 .const) (q1 (ci hs m0 (fun h6 hs => ?_) (fun h6 hs => ?_)))))))))))
 ·refine cS (q2 (zp (mv m8) (zp (nc m0) (zp (fd 1 (fo + 1) m0) (zq (ld fo 1 m0 e0 rfl) (zp (eqL m0 .const) (q1 (ci hs m0 (fun h7 hs => ?_) (fun h7 hs => ?_)))))))))
  ·refine cS (ca 15 ?_)
   refine zt 0 rfl (mv m13) ?_
   refine zt 1 rfl (mv m13) ?_
   refine zt 2 rfl (mv m14) ?_
   refine zt 3 rfl (nc m0) ?_
   refine zt 4 rfl (fd 0 0 m0) ?_
   refine zt 6 rfl (mv m18) ?_
   refine zt 7 rfl (nc m0) ?_
   refine zt 8 rfl (fd 7 (fo + 7) m0) ?_
   refine at_group [5, 9, 10] 4 rfl (by kernel_rfl) rfl ?_
   refine yq (lda 0 m3 e3) (yq (ld fo 7 m1 e0 rfl) (yq (cq (.cons m1 (.cons m0 .nil)) (r6level_ok (o := r6level_s c f.b) rfl l _ _) pn) (qN ?_)))
   obtain ⟨r8, hr8, hs⟩ := bF hs
   refine tu 11 rfl (co (.cons m9 (.cons m0 .nil)) (eload_ok hr8 eb _ _) (p4 pn)) ?_
   refine zt 12 rfl (nc m11) ?_
   refine zt 13 rfl (fd 13 (fo + 13) m0) ?_
   refine tz 14 rfl (st1 fo w13 m0 m2 t1) ?_
   refine zz ?_
   refine tT (cS (cS (ct_draw (by kernel_rfl) (by kernel_rfl) ?_)))
   refine yp (mv (mU m7)) (yp (nc m0) (yp (fd 13 (fo + 13) m0) (yq (ld fo 13 m0 e1 rfl) (yp (op_convI m0 Tryz.underlying50 Tryz.underlying3) (yp (mv (mU m12)) (yp (nc m0) (yp (fd 8 (fo + 8) m0) (yq (ld fo 8 m0 e1 rfl) (yp (op_geq m4 m0) (qN (tT (ci hs m0 (fun h9 hs => ?_) (fun h9 hs => ?_)))))))))))))
   ·refine q2 (zq (cq (.cons .const (.cons .const .nil)) (r8end_ok (o := r8end_s 0 0) rfl  _ _) pn) (rz (sta 0 (mU m16) m0 t3) (q4 (tR (tR (tR (pkE (p2 pn) (tE ro_dup (pkE (p3 pn) (sf ({ f with u := r8.1 } : FrV) ?_))))))))))
    obtain rfl := sI hs
    exact fa (eU e16) e3 (d2 (eP (p1 (p2 (p2 (p1 (p1 (p1 pn))))))))
   refine cK (tT (q2 (zp (mv (mU m17)) (zp (nc m0) (zp (fd 1 (fo + 1) m0) (rz (st1 fo w1 m0 .const t1) (q3 (zp bz (rz (sta 0 (mU m19) m0 t3) (q4 (tR (tR (pkE (p2 pn) (tE ro_dup (pkE (p3 pn) (sf ({ f with line := 2, u := r8.1 } : FrV) ?_))))))))))))))))
   obtain rfl := sI hs
   exact fa (eU e19) e3 (d2 (eP (p1 (p2 (p2 (p1 (p1 (p1 pn))))))))
  refine cK (tT (cS (cS (ca 20 ?_))))
  refine zt 0 rfl (mv m12) ?_
  refine zt 1 rfl (mv m13) ?_
  refine zt 2 rfl (nc m0) ?_
  refine zt 3 rfl (fd 0 0 m0) ?_
  refine zt 5 rfl (mv m17) ?_
  refine zt 6 rfl (nc m0) ?_
  refine zt 7 rfl (fd 7 (fo + 7) m0) ?_
  refine zt 10 rfl (mv (mU m0)) ?_
  refine zt 11 rfl (nc m0) ?_
  refine zt 12 rfl (fd 13 (fo + 13) m0) ?_
  refine zt 14 rfl (mv (mU m3)) ?_
  refine zt 15 rfl (nc m0) ?_
  refine zt 16 rfl (fd 8 (fo + 8) m0) ?_
  refine at_group [4, 8, 9, 13, 17, 18] 1 rfl (by kernel_rfl) rfl ?_
  refine yq (lda 0 m9 e3) (yq (ld fo 7 m7 e0 rfl) (yq (cq (.cons m1 (.cons m0 .nil)) (r6level_ok (o := r6level_s c f.b) rfl l _ _) pn) (yq (ld fo 13 m6 e0 rfl) (yq (ld fo 8 m4 e0 rfl) (yp (op_convU m0 Tryz.underlying3 Tryz.underlying50) (qN ?_))))))
  obtain ⟨r10, hr10, hs⟩ := bF hs
  refine tu 19 rfl (co (.cons m18 (.cons m3 (.cons m2 (.cons m0 .nil)))) (ecas_ok hr10 eb _ _) (p4 pn)) ?_
  refine zz ?_
  refine tT (cj hs m0 (fun h11 hs => ?_) (fun h11 hs => ?_))
  ·refine cS (ca 14 ?_)
   refine zt 0 rfl (mv (mU m12)) ?_
   refine zt 1 rfl (mv (mU m14)) ?_
   refine zt 2 rfl (nc m0) ?_
   refine zt 3 rfl (fd 6 (fo + 6) m0) ?_
   refine zt 5 rfl (mv (mU m17)) ?_
   refine zt 6 rfl (nc m0) ?_
   refine zt 7 rfl (fd 7 (fo + 7) m0) ?_
   refine zt 9 rfl (mv (mU (mU m0))) ?_
   refine zt 10 rfl (nc m0) ?_
   refine zt 11 rfl (fd 8 (fo + 8) m0) ?_
   refine at_group [4, 8, 12] 1 rfl (by kernel_rfl) rfl ?_
   refine yq (ld fo 6 m6 e1 rfl) (yq (ld fo 7 m4 e1 rfl) (yq (ld fo 8 m2 e1 rfl) (qN ?_)))
   obtain ⟨r12, hr12, hs⟩ := bO_of hs
   refine tu 13 rfl (co (.cons m12 (.cons .const (.cons m2 (.cons m1 (.cons .const (.cons m0 .nil)))))) (eemit_ok hr12 eb _ _) (p6 pn)) ?_
   refine zz ?_
   refine tT (q2 (zq (cq (.cons .const (.cons .const .nil)) (r8end_ok (o := r8end_s 1 0) rfl  _ _) pn) (rz (sta 0 (mU (mU m6)) m0 t4) (q4 (tR (tR (pkE (p3 pn) (tE ro_dup (pkE (p4 pn) (sf f ?_))))))))))
   obtain rfl := sI hs
   exact fa (eU (eU e6)) e4 (d2 (eP (p1 (p3 (p3 (p2 (p2 (p1 pn))))))))
  refine cK (tT (q2 (zp (mv (mU m13)) (zp (nc m0) (zp (fd 1 (fo + 1) m0) (rz (st1 fo w1 m0 .const t1) (q3 (zp bz (rz (sta 0 (mU m15) m0 t3) (q4 (tR (pkE (p2 pn) (tE ro_dup (pkE (p3 pn) (sf ({ f with line := 1 } : FrV) ?_)))))))))))))))
  obtain rfl := sI hs
  exact fa (eU e15) e3 (d2 (eP (p1 (p2 (p2 (p1 (p1 (p1 pn))))))))
 refine cK (tT (cS (q2 (zp (mv m8) (zp (nc m0) (zp (fd 1 (fo + 1) m0) (zq (ld fo 1 m0 e0 rfl) (zp (eqL m0 .const) (q1 (ci hs m0 (fun h13 hs => ?_) (fun h13 hs => ?_)))))))))))
 ·refine q2 (zp (mv m13) (zp (nc m0) (zp (fd 1 (fo + 1) m0) (rz (st1 fo w1 m0 .const t0) (q1 (cS (cS (ca 12 ?_))))))))
  refine zt 0 rfl (mv m15) ?_
  refine zt 1 rfl (mv m16) ?_
  refine zt 2 rfl (nc m0) ?_
  refine zt 3 rfl (fd 0 0 m0) ?_
  refine zt 5 rfl (mv (mU m0)) ?_
  refine zt 6 rfl (nc m0) ?_
  refine zt 7 rfl (fd 7 (fo + 7) m0) ?_
  refine at_group [4, 8, 9] 2 rfl (by kernel_rfl) rfl ?_
  refine yq (lda 0 m3 e3) (yq (ld fo 7 m1 e0 rfl) (yq (cq (.cons m1 (.cons m0 .nil)) (r6state_ok (o := r6state_s c f.b) rfl l _ _) pn) (qN ?_)))
  obtain ⟨r14, hr14, hs⟩ := bF hs
  refine tu 10 rfl (co (.cons m9 (.cons m0 .nil)) (eload_ok hr14 eb _ _) (p4 pn)) ?_
  refine zt 11 rfl (eqL m0 .const) ?_
  refine zz ?_
  refine tT (ci hs m0 (fun h15 hs => ?_) (fun h15 hs => ?_))
  ·refine cR (zp (mv (mU m8)) (zp (nc m0) (zp (fd 1 (fo + 1) m0) (rz (st1 fo w1 m0 .const t1) (q3 (zp bz (rz (sta 0 (mU m10) m0 t3) (q4 (tR (pkE (p2 pn) (tE ro_dup (pkE (p3 pn) (sf ({ f with line := 3 } : FrV) ?_)))))))))))))
   obtain rfl := sI hs
   exact fa (eU e10) e3 (d2 (eP (p1 (p2 (p2 (p1 (p1 (p1 pn))))))))
  refine cK (tT (q2 (zp bz (rz (sta 0 (mU m7) m0 t3) (q4 (tR (pkE (p2 pn) (tE ro_dup (pkE (p3 pn) (sf ({ f with line := 4 } : FrV) ?_))))))))))
  obtain rfl := sI hs
  exact fa (eU e7) e3 (d2 (eP (p1 (p2 (p2 (p1 (p1 (p1 pn))))))))
 refine cK (tT (cS (ca 12 ?_)))
 refine zt 0 rfl (mv m12) ?_
 refine zt 1 rfl (mv m13) ?_
 refine zt 2 rfl (nc m0) ?_
 refine zt 3 rfl (fd 0 0 m0) ?_
 refine zt 5 rfl (mv m17) ?_
 refine zt 6 rfl (nc m0) ?_
 refine zt 7 rfl (fd 7 (fo + 7) m0) ?_
 refine at_group [4, 8, 9] 2 rfl (by kernel_rfl) rfl ?_
 refine yq (lda 0 m3 e3) (yq (ld fo 7 m1 e0 rfl) (yq (cq (.cons m1 (.cons m0 .nil)) (r6waits_ok (o := r6waits_s c f.b) rfl l _ _) pn) (qN ?_)))
 obtain ⟨r16, hr16, hs⟩ := bF hs
 refine tu 10 rfl (co (.cons m9 (.cons m0 .nil)) (eload_ok hr16 eb _ _) (p4 pn)) ?_
 refine zt 11 rfl (asg m0) ?_
 refine zz ?_
 refine tT (cS (q2 (zp (mv m0) (zp (eqL m0 .const) (q1 (ci hs m0 (fun h17 hs => ?_) (fun h17 hs => ?_)))))))
 ·refine q2 (zq (cq (.cons .const (.cons .const .nil)) (r8end_ok (o := r8end_s 0 0) rfl  _ _) pn) (rz (sta 0 (mU m6) m0 t3) (q4 (tR (pkE (p2 pn) (tE ro_dup (pkE (p3 pn) (sf f ?_))))))))
  obtain rfl := sI hs
  exact fa (eU e6) e3 (d2 (eP (p1 (p2 (p2 (p1 (p1 (p1 pn))))))))
 refine cK (tT (q2 (zp (mv (mU m7)) (zp (mv (mU m8)) (zp (mv m4) (zp (op_subU m0 .const) (zp (op_convI m0 Tryz.underlying50 Tryz.underlying3) (zp (nc m4) (zp (fd 7 (fo + 7) m0) (rz (st1 fo w7 m0 m2 t1) (zp (nc m5) (zp (fd 1 (fo + 1) m0) (rz (st1 fo w1 m0 .const t1) (q3 (zp bz (rz (sta 0 (mU m15) m0 t3) (q4 (pkE (p2 pn) (tE ro_dup (pkE (p3 pn) (sf ({ f with line := 1, b := (wi (wu (r16.1 - 1))) } : FrV) ?_)))))))))))))))))))))
 obtain rfl := sI hs
 exact fa (eU e15) e3 (d2 (eP (p1 (p2 (p2 (p1 (p1 (p1 pn))))))))
end Go.Proofs.YtpbkelpokpglaaaGreat
