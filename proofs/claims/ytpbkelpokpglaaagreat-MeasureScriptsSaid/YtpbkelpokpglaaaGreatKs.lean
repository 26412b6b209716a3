/- The reference, function by function: what a line does behind another machine. -/
import Derived.Test.YtpbkelpokpglaaaGreatKm
import Derived.Test.YtpbkelpokpglaaaGreatKk
import Derived.Test.YtpbkelpokpglaaaGreatRows
set_option linter.all false
namespace Go.Proofs.YtpbkelpokpglaaaGreat
open Go Go.RowKit
set_option maxRecDepth 100000
set_option maxHeartbeats 2000000
variable {c : Cfg} {m : MemV} {now draw : Int} {recs : List RecV} {evs : List Ev} {f : FrV}
def r8following_s (c : Cfg) (f : FrV) : ResV × FrV :=
 if ((c.subs.length : Nat) : Int) ≤ (wi (f.i + 1)) then
  ((r8end_s 0 0), ({ f with line := 1, b := 0, i := (wi (f.i + 1)) } : FrV))
 else
 ((⟨false, 0, 0⟩ : ResV), ({ f with line := 1, b := 0, i := (wi (f.i + 1)) } : FrV))
theorem r8following_ok {o : ResV × FrV} (hs : r8following_s c f = o) (eb : Nat) (l : CfgAt) (fb fo : Nat)  (B : Nat) (W : World)  : Fn_ Tryz.prog 181 #[vp eb 0, vp fb fo] B W [cP eb c l, frS fb fo f] (X := Unit) (fun x => .agg #[.bool (o.1.done), vi o.1.code, vi o.1.value]) (fun x => [cP eb c l, frS fb fo o.2]) := by
 unfold r8following_s at hs
 refine fe2 Tryz.func181 31 rfl (fun F => ?_)
 refine q2 (rn (al [.bool false, zi, zi]) ?_)
 rintro b1
 refine q1 (cS (ct_open pick2 ?_))
 rintro ⟨A2, c2⟩
 refine cR (zp (mv m2) (zp (nc m0) (zp (fd 9 (fo + 9) m0) (zq (ld fo 9 m0 e0 rfl) (zp (aI m0 .const) (zp (nc m4) (zp (fd 9 (fo + 9) m0) (rz (st1 fo w9 m0 m2 t0) (q3 (zp (mv m9) (zp (mv m10) (zp (nc m1) (zp (fd 1 (fo + 1) m0) (rz (st1 fo w1 m0 .const t0) (zp (nc m2) (zp (fd 7 (fo + 7) m0) (rz (st1 fo w7 m0 .const t0) (q1 (cS (cS (ct_draw (by kernel_rfl) (by kernel_rfl) ?_)))))))))))))))))))))
 refine yp (mv m15) (yp (nc m0) (yp (fd 9 (fo + 9) m0) (yq (ld fo 9 m0 e0 rfl) (yp (mv m18) (yp (nc m0) (yp (fd 0 0 m0) (yp (fd 10 10 m0) (yq (ld 0 10 m0 e3 rfl) (yp (op_len m0 Tryz.underlying26) (yp (op_geq m6 m0) (qN (tT (ci hs m0 (fun h3 hs => ?_) (fun h3 hs => ?_))))))))))))))
 ·refine q2 (zq (cq (.cons .const (.cons .const .nil)) (r8end_ok (o := r8end_s 0 0) rfl  _ _) pn) (rz (sta 0 (mU m5) m0 t2) (q4 (tR (pkE (p1 pn) (tE ro_dup (pkE (p2 pn) (sf ({ f with line := 1, b := 0, i := (wi (f.i + 1)) } : FrV) ?_))))))))
  subst hs
  exact fa (eU e5) e2 (d2 (eP (p1 (p1 (p1 pn)))))
 refine cK (tT (q2 (zp bz (rz (sta 0 (mU m5) m0 t2) (q4 (pkE (p1 pn) (tE ro_dup (pkE (p2 pn) (sf ({ f with line := 1, b := 0, i := (wi (f.i + 1)) } : FrV) ?_)))))))))
 subst hs
 exact fa (eU e5) e2 (d2 (eP (p1 (p1 (p1 pn)))))
def r8backwalk_s (evs : List Ev) (f : FrV) (code : Int) : Option (ResV × (List Ev) × FrV) :=
 if f.line = 1 then
  if code = 1 then
   some ((⟨false, 0, 0⟩ : ResV), evs, ({ f with line := 2 } : FrV))
  else
  some ((⟨false, 0, 0⟩ : ResV), evs, ({ f with line := 4 } : FrV))
 else
 if code = 3 then
  (eemit_s evs 19 f.a f.b 0 f.d).bind fun r6 =>
  some ((⟨false, 0, 0⟩ : ResV), r6, ({ f with line := 4 } : FrV))
 else
 some ((⟨false, 0, 0⟩ : ResV), evs, ({ f with line := 4 } : FrV))
theorem r8backwalk_ok {code : Int} {o : ResV × (List Ev) × FrV} (hs : r8backwalk_s evs f code = some o) (eb : Nat) (fb fo : Nat)  (B : Nat) (W : World)  : Fn_ Tryz.prog 140 #[vp eb 0, vp fb fo, vi code] B W [evsS eb 20 evs, frS fb fo f] (X := Unit) (fun x => .agg #[.bool (o.1.done), vi o.1.code, vi o.1.value]) (fun x => [evsS eb 20 o.2.1, frS fb fo o.2.2]) := by
 unfold r8backwalk_s at hs
 refine fe3 Tryz.func140 41 rfl (fun F => ?_)
 refine q2 (rn (al [.bool false, zi, zi]) ?_)
 rintro b1
 refine q1 (cS (cS (ct_open pick2 ?_)))
 rintro ⟨A2, c2⟩
 refine cR (zp (mv m2) (zp (nc m0) (zp (fd 1 (fo + 1) m0) (zq (ld fo 1 m0 e0 rfl) (zp (eqL m0 .const) (q1 (ci hs m0 (fun h3 hs => ?_) (fun h3 hs => ?_))))))))
 ·refine q2 (zp (mv m7) (zp (nc m0) (zp (fd 1 (fo + 1) m0) (rz (st1 fo w1 m0 .const t0) (q1 (cS (q2 (zp (mv m11) (zp (eqL m0 .const) (q1 (ci hs m0 (fun h4 hs => ?_) (fun h4 hs => ?_))))))))))))
  ·refine cR (zp (mv m12) (zp (nc m0) (zp (fd 1 (fo + 1) m0) (rz (st1 fo w1 m0 .const t0) (q3 (zp bz (rz (sta 0 m14 m0 t2) (q4 (tR (pkE (p1 pn) (tE ro_dup (pkE (p2 pn) (sf ({ f with line := 2 } : FrV) ?_)))))))))))))
   obtain rfl := sI hs
   exact fa e14 e2 (d2 (eP (p1 (p1 (p1 pn)))))
  refine cK (tT (q2 (zp bz (rz (sta 0 m11 m0 t2) (q4 (tR (pkE (p1 pn) (tE ro_dup (pkE (p2 pn) (sf ({ f with line := 4 } : FrV) ?_))))))))))
  obtain rfl := sI hs
  exact fa e11 e2 (d2 (eP (p1 (p1 (p1 pn)))))
 refine cK (tT (cS (q2 (zp (mv m8) (zp (eqL m0 .const) (q1 (ci hs m0 (fun h5 hs => ?_) (fun h5 hs => ?_))))))))
 ·refine ca 14 ?_
  refine zt 0 rfl (mv m8) ?_
  refine zt 1 rfl (mv m10) ?_
  refine zt 2 rfl (nc m0) ?_
  refine zt 3 rfl (fd 6 (fo + 6) m0) ?_
  refine zt 5 rfl (mv m13) ?_
  refine zt 6 rfl (nc m0) ?_
  refine zt 7 rfl (fd 7 (fo + 7) m0) ?_
  refine zt 9 rfl (mv m16) ?_
  refine zt 10 rfl (nc m0) ?_
  refine zt 11 rfl (fd 8 (fo + 8) m0) ?_
  refine at_group [4, 8, 12] 1 rfl (by kernel_rfl) rfl ?_
  refine yq (ld fo 6 m6 e0 rfl) (yq (ld fo 7 m4 e0 rfl) (yq (ld fo 8 m2 e0 rfl) (qN ?_)))
  obtain ⟨r6, hr6, hs⟩ := bO_of hs
  refine tu 13 rfl (co (.cons m12 (.cons .const (.cons m2 (.cons m1 (.cons .const (.cons m0 .nil)))))) (eemit_ok hr6 eb _ _) (p3 pn)) ?_
  refine zz ?_
  refine tT (q2 (zp (mv (mU m3)) (zp (nc m0) (zp (fd 1 (fo + 1) m0) (rz (st1 fo w1 m0 .const t1) (q3 (zp bz (rz (sta 0 (mU m5) m0 t3) (q4 (pkE (p2 pn) (tE ro_dup (pkE (p3 pn) (sf ({ f with line := 4 } : FrV) ?_)))))))))))))
  obtain rfl := sI hs
  exact fa (eU e5) e3 (d2 (eP (p1 (p2 (p1 pn)))))
 refine cK (tT (q2 (zp (mv m9) (zp (nc m0) (zp (fd 1 (fo + 1) m0) (rz (st1 fo w1 m0 .const t0) (q3 (zp bz (rz (sta 0 m11 m0 t2) (q4 (pkE (p1 pn) (tE ro_dup (pkE (p2 pn) (sf ({ f with line := 4 } : FrV) ?_))))))))))))))
 obtain rfl := sI hs
 exact fa e11 e2 (d2 (eP (p1 (p1 (p1 pn)))))
def r8backdrain_s (c : Cfg) (f : FrV) (code : Int) (value : Int) : ResV × FrV :=
 if f.line = 2 then
  if code = 5 then
   ((r8end_s 5 0), f)
  else
  ((⟨false, 0, 0⟩ : ResV), ({ f with line := 3 } : FrV))
 else
 if f.line = 3 then
  if code = 2 then
   ((⟨false, 0, 0⟩ : ResV), ({ f with line := 6, n := value } : FrV))
  else
  ((⟨false, 0, 0⟩ : ResV), ({ f with line := 4, n := value } : FrV))
 else
 if f.line = 5 then
  if code = 3 then
   ((⟨false, 0, 0⟩ : ResV), ({ f with line := 6, d := f.n } : FrV))
  else
  if (wi (f.i + 1)) < c.batch then
   ((⟨false, 0, 0⟩ : ResV), ({ f with line := 3, i := (wi (f.i + 1)), j := f.t } : FrV))
  else
  ((⟨false, 0, 0⟩ : ResV), ({ f with line := 6, i := (wi (f.i + 1)), j := f.t } : FrV))
 else
 if f.line = 6 then
  if 0 < f.i then
   ((⟨false, 0, 0⟩ : ResV), ({ f with line := 7 } : FrV))
  else
  if 0 ≤ f.d then
   ((r8end_s 1 f.d), f)
  else
  ((r8end_s 2 0), f)
 else
 if 0 ≤ f.d then
  ((r8end_s 1 f.d), f)
 else
 ((r8end_s 0 f.i), f)
theorem r8backdrain_ok {code : Int} {value : Int} {o : ResV × FrV} (hs : r8backdrain_s c f code value = o) (eb : Nat) (l : CfgAt) (fb fo : Nat)  (B : Nat) (W : World)  : Fn_ Tryz.prog 142 #[vp eb 0, vp fb fo, vi code, vi value] B W [cP eb c l, frS fb fo f] (X := Unit) (fun x => .agg #[.bool (o.1.done), vi o.1.code, vi o.1.value]) (fun x => [cP eb c l, frS fb fo o.2]) := by
 unfold r8backdrain_s at hs
 refine fe4 Tryz.func142 118 rfl (fun F => ?_)
 refine q2 (rn (al [.bool false, zi, zi]) ?_)
 rintro b1
 refine q1 (cS (cS (ct_open pick2 ?_)))
 rintro ⟨A2, c2⟩
 refine cR (zp (mv m2) (zp (nc m0) (zp (fd 1 (fo + 1) m0) (zq (ld fo 1 m0 e0 rfl) (q1 (cB (q2 (zp (eqL m0 .const) (zp (asg m0) (q1 (ci hs m0 (fun h3 hs => ?_) (fun h3 hs => ?_))))))))))))
 ·refine cS (q2 (zp (mv m9) (zp (eqL m0 .const) (q1 (ci hs m0 (fun h4 hs => ?_) (fun h4 hs => ?_))))))
  ·refine q2 (zq (cq (.cons .const (.cons .const .nil)) (r8end_ok (o := r8end_s 5 0) rfl  _ _) pn) (rz (sta 0 m9 m0 t2) (q4 (tR (bR (tR (pkE (p1 pn) (tE ro_dup (pkE (p2 pn) (sf f ?_))))))))))
   subst hs
   exact fa e9 e2 (d2 (eP (p1 (p1 (p1 pn)))))
  refine cK (tT (cR (zp (mv m10) (zp (nc m0) (zp (fd 1 (fo + 1) m0) (rz (st1 fo w1 m0 .const t0) (rN (tB (tT (q2 (zp bz (rz (sta 0 m12 m0 t2) (q4 (pkE (p1 pn) (tE ro_dup (pkE (p2 pn) (sf ({ f with line := 3 } : FrV) ?_)))))))))))))))))
  subst hs
  exact fa e12 e2 (d2 (eP (p1 (p1 (p1 pn)))))
 refine q2 (zp (eqL m2 .const) (zp (asg m0) (q1 (ci hs m0 (fun h5 hs => ?_) (fun h5 hs => ?_)))))
 ·refine q2 (zp (mv m10) (zp (mv m11) (zp (mv m14) (zp (nc m2) (zp (fd 1 (fo + 1) m0) (rz (st1 fo w1 m0 .const t0) (zp (nc m3) (zp (fd 11 (fo + 11) m0) (rz (st1 fo w11 m0 m4 t0) (q3 (zp (mv m18) (zp (eqL m0 .const) (q1 (ci hs m0 (fun h6 hs => ?_) (fun h6 hs => ?_)))))))))))))))
  ·refine cR (zp (mv m19) (zp (nc m0) (zp (fd 1 (fo + 1) m0) (rz (st1 fo w1 m0 .const t0) (rN (tB (tT (q2 (zp bz (rz (sta 0 (mU m1) m0 t2) (q4 (pkE (p1 pn) (tE ro_dup (pkE (p2 pn) (sf ({ f with line := 6, n := value } : FrV) ?_)))))))))))))))
   subst hs
   exact fa (eU e1) e2 (d2 (eP (p1 (p1 (p1 pn)))))
  refine cK (tB (tT (q2 (zp bz (rz (sta 0 m18 m0 t2) (q4 (pkE (p1 pn) (tE ro_dup (pkE (p2 pn) (sf ({ f with line := 4, n := value } : FrV) ?_))))))))))
  subst hs
  exact fa e18 e2 (d2 (eP (p1 (p1 (p1 pn)))))
 refine q2 (zp (eqL m4 .const) (zp (asg m0) (q1 (ci hs m0 (fun h7 hs => ?_) (fun h7 hs => ?_)))))
 ·refine cS (q2 (zp (mv m13) (zp (eqL m0 .const) (q1 (ci hs m0 (fun h8 hs => ?_) (fun h8 hs => ?_))))))
  ·refine q2 (zp (mv m14) (zp (mv m15) (zp (mv m16) (zp (nc m0) (zp (fd 11 (fo + 11) m0) (zq (ld fo 11 m0 e0 rfl) (zp (nc m5) (zp (fd 1 (fo + 1) m0) (rz (st1 fo w1 m0 .const t0) (zp (nc m6) (zp (fd 8 (fo + 8) m0) (rz (st1 fo w8 m0 m4 t0) (q3 (zp bz (rz (sta 0 (mU m3) m0 t2) (q4 (tR (bR (tR (pkE (p1 pn) (tE ro_dup (pkE (p2 pn) (sf ({ f with line := 6, d := f.n } : FrV) ?_)))))))))))))))))))))))
   subst hs
   exact fa (eU e3) e2 (d2 (eP (p1 (p1 (p1 pn)))))
  refine cK (tT (q2 (zp (mv m14) (zp (mv m15) (zp (nc m0) (zp (fd 12 (fo + 12) m0) (zq (ld fo 12 m0 e0 rfl) (zp (nc m4) (zp (fd 10 (fo + 10) m0) (rz (st1 fo w10 m0 m2 t0) (q3 (zp (mv (mU m1)) (zp (nc m0) (zp (fd 9 (fo + 9) m0) (zq (ld fo 9 m0 e0 rfl) (zp (aI m0 .const) (zp (nc m4) (zp (fd 9 (fo + 9) m0) (rz (st1 fo w9 m0 m2 t0) (q3 (zp (mv (mU m8)) (zp (nc m0) (zp (fd 1 (fo + 1) m0) (rz (st1 fo w1 m0 .const t0) (q1 (cS (ct_draw (by kernel_rfl) (by kernel_rfl) ?_)))))))))))))))))))))))))))
  refine yp (mv (mU m11)) (yp (nc m0) (yp (fd 9 (fo + 9) m0) (yq (ld fo 9 m0 e0 rfl) (yp (mv (mU m14)) (yp (nc m0) (yp (fd 0 0 m0) (yp (fd 6 6 m0) (yq (ld 0 6 m0 e3 rfl) (yp (op_lss m5 m0) (qN (tT (ci hs m0 (fun h9 hs => ?_) (fun h9 hs => ?_)))))))))))))
  ·refine cR (zp (mv (mU (mU m1))) (zp (nc m0) (zp (fd 1 (fo + 1) m0) (rz (st1 fo w1 m0 .const t0) (rN (tB (tT (q2 (zp bz (rz (sta 0 (mU (mU m3)) m0 t2) (q4 (pkE (p1 pn) (tE ro_dup (pkE (p2 pn) (sf ({ f with line := 3, i := (wi (f.i + 1)), j := f.t } : FrV) ?_)))))))))))))))
   subst hs
   exact fa (eU (eU e3)) e2 (d2 (eP (p1 (p1 (p1 pn)))))
  refine cK (tB (tT (q2 (zp bz (rz (sta 0 (mU (mU m0)) m0 t2) (q4 (pkE (p1 pn) (tE ro_dup (pkE (p2 pn) (sf ({ f with line := 6, i := (wi (f.i + 1)), j := f.t } : FrV) ?_))))))))))
  subst hs
  exact fa (eU (eU e0)) e2 (d2 (eP (p1 (p1 (p1 pn)))))
 refine q2 (zp (eqL m6 .const) (zp (asg m0) (q1 (ci hs m0 (fun h10 hs => ?_) (fun h10 hs => ?_)))))
 ·refine cS (q2 (zp (mv m14) (zp (nc m0) (zp (fd 9 (fo + 9) m0) (zq (ld fo 9 m0 e0 rfl) (zp (op_gtr m0 .const) (q1 (ci hs m0 (fun h11 hs => ?_) (fun h11 hs => ?_)))))))))
  ·refine q2 (zp (mv m19) (zp (nc m0) (zp (fd 1 (fo + 1) m0) (rz (st1 fo w1 m0 .const t0) (q3 (zp bz (rz (sta 0 (mU m1) m0 t2) (q4 (tR (bR (tR (pkE (p1 pn) (tE ro_dup (pkE (p2 pn) (sf ({ f with line := 7 } : FrV) ?_)))))))))))))))
   subst hs
   exact fa (eU e1) e2 (d2 (eP (p1 (p1 (p1 pn)))))
  refine cK (tT (cS (q2 (zp (mv m19) (zp (nc m0) (zp (fd 8 (fo + 8) m0) (zq (ld fo 8 m0 e0 rfl) (zp (op_geq m0 .const) (q1 (ci hs m0 (fun h12 hs => ?_) (fun h12 hs => ?_)))))))))))
  ·refine q2 (zp (mv (mU m4)) (zp (nc m0) (zp (fd 8 (fo + 8) m0) (zq (ld fo 8 m0 e0 rfl) (zq (cq (.cons .const (.cons m0 .nil)) (r8end_ok (o := r8end_s 1 f.d) rfl  _ _) pn) (rz (sta 0 (mU m7) m0 t2) (q4 (tR (bR (tR (pkE (p1 pn) (tE ro_dup (pkE (p2 pn) (sf f ?_))))))))))))))
   subst hs
   exact fa (eU e7) e2 (d2 (eP (p1 (p1 (p1 pn)))))
  refine cK (tT (q2 (zq (cq (.cons .const (.cons .const .nil)) (r8end_ok (o := r8end_s 2 0) rfl  _ _) pn) (rz (sta 0 (mU m3) m0 t2) (q4 (bR (tR (pkE (p1 pn) (tE ro_dup (pkE (p2 pn) (sf f ?_)))))))))))
  subst hs
  exact fa (eU e3) e2 (d2 (eP (p1 (p1 (p1 pn)))))
 refine cS (q2 (zp (mv m14) (zp (nc m0) (zp (fd 8 (fo + 8) m0) (zq (ld fo 8 m0 e0 rfl) (zp (op_geq m0 .const) (q1 (ci hs m0 (fun h13 hs => ?_) (fun h13 hs => ?_)))))))))
 ·refine q2 (zp (mv m19) (zp (nc m0) (zp (fd 8 (fo + 8) m0) (zq (ld fo 8 m0 e0 rfl) (zq (cq (.cons .const (.cons m0 .nil)) (r8end_ok (o := r8end_s 1 f.d) rfl  _ _) pn) (rz (sta 0 (mU m2) m0 t2) (q4 (tR (bR (tR (pkE (p1 pn) (tE ro_dup (pkE (p2 pn) (sf f ?_))))))))))))))
  subst hs
  exact fa (eU e2) e2 (d2 (eP (p1 (p1 (p1 pn)))))
 refine cK (tT (q2 (zp (mv m19) (zp (nc m0) (zp (fd 9 (fo + 9) m0) (zq (ld fo 9 m0 e0 rfl) (zq (cq (.cons .const (.cons m0 .nil)) (r8end_ok (o := r8end_s 0 f.i) rfl  _ _) pn) (rz (sta 0 (mU m2) m0 t2) (q4 (bR (tR (pkE (p1 pn) (tE ro_dup (pkE (p2 pn) (sf f ?_)))))))))))))))
 subst hs
 exact fa (eU e2) e2 (d2 (eP (p1 (p1 (p1 pn)))))
def r8backtake_s (f : FrV) (code : Int) (value : Int) : ResV × FrV :=
 if f.line = 1 then
  if code = 2 then
   ((r8end_s 2 0), f)
  else
  ((⟨false, 0, 0⟩ : ResV), ({ f with line := 2, n := value } : FrV))
 else
 if code = 1 then
  ((r8end_s 1 value), f)
 else
 ((⟨false, 0, 0⟩ : ResV), ({ f with line := 1 } : FrV))
theorem r8backtake_ok {code : Int} {value : Int} {o : ResV × FrV} (hs : r8backtake_s f code value = o) (fb fo : Nat)  (B : Nat) (W : World)  : Fn_ Tryz.prog 143 #[vp fb fo, vi code, vi value] B W [frS fb fo f] (X := Unit) (fun x => .agg #[.bool (o.1.done), vi o.1.code, vi o.1.value]) (fun x => [frS fb fo o.2]) := by
 unfold r8backtake_s at hs
 refine fe3 Tryz.func143 31 rfl (fun F => ?_)
 refine q2 (rn (al [.bool false, zi, zi]) ?_)
 rintro b1
 refine q1 (cS (cS (ct_open pick1 ?_)))
 rintro ⟨A2, c2⟩
 refine cR (zp (mv m1) (zp (nc m0) (zp (fd 1 (fo + 1) m0) (zq (ld fo 1 m0 e0 rfl) (zp (eqL m0 .const) (q1 (ci hs m0 (fun h3 hs => ?_) (fun h3 hs => ?_))))))))
 ·refine cS (q2 (zp (mv m7) (zp (eqL m0 .const) (q1 (ci hs m0 (fun h4 hs => ?_) (fun h4 hs => ?_))))))
  ·refine q2 (zq (cq (.cons .const (.cons .const .nil)) (r8end_ok (o := r8end_s 2 0) rfl  _ _) pn) (rz (sta 0 m8 m0 t2) (q4 (tR (tR (pkE (p1 pn) (tE ro_dup (pkE (p2 pn) (sf f ?_)))))))))
   subst hs
   exact fa e8 e2 (d2 (eP (p1 (p1 pn))))
  refine cK (tT (q2 (zp (mv m8) (zp (mv m9) (zp (mv m12) (zp (nc m2) (zp (fd 11 (fo + 11) m0) (rz (st1 fo w11 m0 m2 t0) (zp (nc m3) (zp (fd 1 (fo + 1) m0) (rz (st1 fo w1 m0 .const t0) (q3 (zp bz (rz (sta 0 m15 m0 t2) (q4 (tR (pkE (p1 pn) (tE ro_dup (pkE (p2 pn) (sf ({ f with line := 2, n := value } : FrV) ?_))))))))))))))))))))
  subst hs
  exact fa e15 e2 (d2 (eP (p1 (p1 pn))))
 refine cK (tT (cS (q2 (zp (mv m7) (zp (eqL m0 .const) (q1 (ci hs m0 (fun h5 hs => ?_) (fun h5 hs => ?_))))))))
 ·refine q2 (zp (mv m10) (zq (cq (.cons .const (.cons m0 .nil)) (r8end_ok (o := r8end_s 1 value) rfl  _ _) pn) (rz (sta 0 m9 m0 t2) (q4 (tR (pkE (p1 pn) (tE ro_dup (pkE (p2 pn) (sf f ?_)))))))))
  subst hs
  exact fa e9 e2 (d2 (eP (p1 (p1 pn))))
 refine cK (tT (q2 (zp (mv m8) (zp (nc m0) (zp (fd 1 (fo + 1) m0) (rz (st1 fo w1 m0 .const t0) (q3 (zp bz (rz (sta 0 m11 m0 t2) (q4 (pkE (p1 pn) (tE ro_dup (pkE (p2 pn) (sf ({ f with line := 1 } : FrV) ?_))))))))))))))
 subst hs
 exact fa e11 e2 (d2 (eP (p1 (p1 pn))))
def r8backworker_s (c : Cfg) (evs : List Ev) (f : FrV) (code : Int) (value : Int) : Option ((List Ev) × FrV) :=
 if f.line = 1 then
  if (if 1 < c.tasks then c.tasks else 1) ≠ 0 then
  some (evs, ({ f with line := 2, j := (Int.tmod (wi (f.j + 1)) (if 1 < c.tasks then c.tasks else 1)) } : FrV))
  else none
 else
 if f.line = 2 then
  if code = 1 then
   some (evs, ({ f with line := 7, n := value } : FrV))
  else
  some (evs, ({ f with line := 3, n := value } : FrV))
 else
 if f.line = 3 then
  if code = 1 then
   some (evs, ({ f with line := 6, n := value } : FrV))
  else
  if code = 0 then
   some (evs, ({ f with line := 2, n := value } : FrV))
  else
  if c.workers = 1 then
   some (evs, ({ f with line := 8, n := value } : FrV))
  else
  some (evs, ({ f with line := 4, n := value } : FrV))
 else
 if f.line = 4 then
  if code = 1 then
   some (evs, ({ f with line := 5, d := (Int.tmod value 64), i := (wi (Int.tdiv value 64)) } : FrV))
  else
  some (evs, ({ f with line := 8, d := (Int.tmod value 64), i := (wi (Int.tdiv value 64)) } : FrV))
 else
 if f.line = 5 then
  if code = 1 then
   (eemit_s evs 14 f.a value f.i f.d).bind fun r14 =>
   some (r14, ({ f with line := 6, n := value } : FrV))
  else
  if code = 2 then
   some (evs, ({ f with line := 9, n := value } : FrV))
  else
  some (evs, ({ f with line := 1, n := value } : FrV))
 else
 if f.line = 6 then
  if code = 1 then
   some (evs, ({ f with line := 7 } : FrV))
  else
  some (evs, ({ f with line := 1 } : FrV))
 else
 some (evs, ({ f with line := 1 } : FrV))
theorem r8backworker_ok {code : Int} {value : Int} {o : (List Ev) × FrV} (hs : r8backworker_s c evs f code value = some o) (eb : Nat) (l : CfgAt) (fb fo : Nat)  (B : Nat) (W : World)  : Fn_ Tryz.prog 145 #[vp eb 0, vp fb fo, vi code, vi value] B W [cP eb c l, evsS eb 20 evs, frS fb fo f] (X := Unit) (fun x => .tuple #[]) (fun x => [cP eb c l, evsS eb 20 o.1, frS fb fo o.2]) := by
 unfold r8backworker_s at hs
 refine fe4 Tryz.func145 148 rfl (fun F => ?_)
 refine cS (ct_open pick2 ?_)
 rintro ⟨A1, c1⟩
 refine cR (zp (mv m1) (zp (nc m0) (zp (fd 1 (fo + 1) m0) (zq (ld fo 1 m0 e0 rfl) (q1 (cB (q2 (zp (eqL m0 .const) (zp (asg m0) (q1 (ci hs m0 (fun h2 hs => ?_) (fun h2 hs => ?_))))))))))))
 ·refine ca 20 ?_
  refine zt 0 rfl (mv m7) ?_
  refine zt 1 rfl (mv m8) ?_
  refine zt 2 rfl (mv m9) ?_
  refine zt 3 rfl (nc m0) ?_
  refine zt 4 rfl (fd 10 (fo + 10) m0) ?_
  refine zt 7 rfl (mv m11) ?_
  refine zt 8 rfl (nc m0) ?_
  refine zt 9 rfl (fd 0 0 m0) ?_
  refine zt 10 rfl (fd 3 3 m0) ?_
  refine at_group [5, 6, 11, 12, 13, 14, 15] 4 rfl (by kernel_rfl) rfl ?_
  refine yq (ld fo 10 m4 e0 rfl) (yp (aI m0 .const) (yq (ld 0 3 m2 e2 rfl) (yp (op_max .const m0) ?_)))
  obtain ⟨g3, hs⟩ := gO hs
  refine yp (op_remI m2 m0 g3) (yp (nc m13) (yp (fd 10 (fo + 10) m0) (qN (tz 16 rfl (st1 fo w10 m0 m2 t0) ?_))))
  refine zt 17 rfl (nc m14) ?_
  refine zt 18 rfl (fd 1 (fo + 1) m0) ?_
  refine tz 19 rfl (st1 fo w1 m0 .const t0) ?_
  refine zz ?_
  refine tB (pkE (p1 pn) (tE ro_dup (pkE (p2 pn) (sf ({ f with line := 2, j := (Int.tmod (wi (f.j + 1)) (if 1 < c.tasks then c.tasks else 1)) } : FrV) ?_))))
  obtain rfl := sI hs
  exact et_fn_end () rfl .nil rfl ((Ent.picks (p1 (p1 (p1 (p0 .nil))))).trans Ent.drop)
 refine q2 (zp (eqL m2 .const) (zp (asg m0) (q1 (ci hs m0 (fun h4 hs => ?_) (fun h4 hs => ?_)))))
 ·refine q2 (zp (mv m9) (zp (mv m10) (zp (mv m13) (zp (nc m2) (zp (fd 1 (fo + 1) m0) (rz (st1 fo w1 m0 .const t0) (zp (nc m3) (zp (fd 11 (fo + 11) m0) (rz (st1 fo w11 m0 m4 t0) (q3 (zp (mv m17) (zp (eqL m0 .const) (q1 (ci hs m0 (fun h5 hs => ?_) (fun h5 hs => ?_)))))))))))))))
  ·refine cR (zp (mv m18) (zp (nc m0) (zp (fd 1 (fo + 1) m0) (rz (st1 fo w1 m0 .const t0) (rN (tB (pkE (p1 pn) (tE ro_dup (pkE (p2 pn) (sf ({ f with line := 7, n := value } : FrV) ?_))))))))))
   obtain rfl := sI hs
   exact et_fn_end () rfl .nil rfl ((Ent.picks (p1 (p1 (p1 (p0 .nil))))).trans Ent.drop)
  refine cK (tB (pkE (p1 pn) (tE ro_dup (pkE (p2 pn) (sf ({ f with line := 3, n := value } : FrV) ?_)))))
  obtain rfl := sI hs
  exact et_fn_end () rfl .nil rfl ((Ent.picks (p1 (p1 (p1 (p0 .nil))))).trans Ent.drop)
 refine q2 (zp (eqL m4 .const) (zp (asg m0) (q1 (ci hs m0 (fun h6 hs => ?_) (fun h6 hs => ?_)))))
 ·refine q2 (zp (mv m11) (zp (mv m14) (zp (nc m1) (zp (fd 11 (fo + 11) m0) (rz (st1 fo w11 m0 m2 t0) (q1 (cB (q2 (zp (mv m16) (zp (eqL m0 .const) (zp (asg m0) (q1 (ci hs m0 (fun h7 hs => ?_) (fun h7 hs => ?_))))))))))))))
  ·refine cR (zp (mv m18) (zp (nc m0) (zp (fd 1 (fo + 1) m0) (rz (st1 fo w1 m0 .const t0) (rN (tB (tB (pkE (p1 pn) (tE ro_dup (pkE (p2 pn) (sf ({ f with line := 6, n := value } : FrV) ?_)))))))))))
   obtain rfl := sI hs
   exact et_fn_end () rfl .nil rfl ((Ent.picks (p1 (p1 (p1 (p0 .nil))))).trans Ent.drop)
  refine q2 (zp (mv m19) (zp (eqL m0 .const) (zp (asg m0) (q1 (ci hs m0 (fun h8 hs => ?_) (fun h8 hs => ?_))))))
  ·refine cR (zp (mv (mU m1)) (zp (nc m0) (zp (fd 1 (fo + 1) m0) (rz (st1 fo w1 m0 .const t0) (rN (tB (tB (pkE (p1 pn) (tE ro_dup (pkE (p2 pn) (sf ({ f with line := 2, n := value } : FrV) ?_)))))))))))
   obtain rfl := sI hs
   exact et_fn_end () rfl .nil rfl ((Ent.picks (p1 (p1 (p1 (p0 .nil))))).trans Ent.drop)
  refine q2 (zp (mv (mU m0)) (zp (nc m0) (zp (fd 0 0 m0) (zp (fd 0 0 m0) (zq (ld 0 0 m0 e2 rfl) (zp (eqL m0 .const) (zp (asg m0) (q1 (ci hs m0 (fun h9 hs => ?_) (fun h9 hs => ?_))))))))))
  ·refine cR (zp (mv (mU m8)) (zp (nc m0) (zp (fd 1 (fo + 1) m0) (rz (st1 fo w1 m0 .const t0) (rN (tB (tB (pkE (p1 pn) (tE ro_dup (pkE (p2 pn) (sf ({ f with line := 8, n := value } : FrV) ?_)))))))))))
   obtain rfl := sI hs
   exact et_fn_end () rfl .nil rfl ((Ent.picks (p1 (p1 (p1 (p0 .nil))))).trans Ent.drop)
  refine cR (zp (mv (mU m8)) (zp (nc m0) (zp (fd 1 (fo + 1) m0) (rz (st1 fo w1 m0 .const t0) (rN (tB (tB (pkE (p1 pn) (tE ro_dup (pkE (p2 pn) (sf ({ f with line := 4, n := value } : FrV) ?_)))))))))))
  obtain rfl := sI hs
  exact et_fn_end () rfl .nil rfl ((Ent.picks (p1 (p1 (p1 (p0 .nil))))).trans Ent.drop)
 refine q2 (zp (eqL m6 .const) (zp (asg m0) (q1 (ci hs m0 (fun h10 hs => ?_) (fun h10 hs => ?_)))))
 ·refine q2 (zp (mv m13) (zp (mv m14) (zp (mv m15) (zp (mv m18) (zp (op_quoI m0 .const (by decide)) (zp (mv (mU m0)) (zp (op_remI m0 .const (by decide)) (zp (nc m6) (zp (fd 1 (fo + 1) m0) (rz (st1 fo w1 m0 .const t0) (zp (nc m7) (zp (fd 9 (fo + 9) m0) (rz (st1 fo w9 m0 m6 t0) (zp (nc m8) (zp (fd 8 (fo + 8) m0) (rz (st1 fo w8 m0 m6 t0) (q3 (zp (mv (mU m7)) (zp (eqL m0 .const) (q1 (ci hs m0 (fun h11 hs => ?_) (fun h11 hs => ?_))))))))))))))))))))))
  ·refine cR (zp (mv (mU m8)) (zp (nc m0) (zp (fd 1 (fo + 1) m0) (rz (st1 fo w1 m0 .const t0) (rN (tB (pkE (p1 pn) (tE ro_dup (pkE (p2 pn) (sf ({ f with line := 5, d := (Int.tmod value 64), i := (wi (Int.tdiv value 64)) } : FrV) ?_))))))))))
   obtain rfl := sI hs
   exact et_fn_end () rfl .nil rfl ((Ent.picks (p1 (p1 (p1 (p0 .nil))))).trans Ent.drop)
  refine cK (tB (pkE (p1 pn) (tE ro_dup (pkE (p2 pn) (sf ({ f with line := 8, d := (Int.tmod value 64), i := (wi (Int.tdiv value 64)) } : FrV) ?_)))))
  obtain rfl := sI hs
  exact et_fn_end () rfl .nil rfl ((Ent.picks (p1 (p1 (p1 (p0 .nil))))).trans Ent.drop)
 refine q2 (zp (eqL m8 .const) (zp (asg m0) (q1 (ci hs m0 (fun h12 hs => ?_) (fun h12 hs => ?_)))))
 ·refine q2 (zp (mv m15) (zp (mv m16) (zp (mv m19) (zp (nc m2) (zp (fd 1 (fo + 1) m0) (rz (st1 fo w1 m0 .const t0) (zp (nc m3) (zp (fd 11 (fo + 11) m0) (rz (st1 fo w11 m0 m4 t0) (q3 (zp (mv (mU m3)) (q1 (cB (q2 (zp (eqL m0 .const) (zp (asg m0) (q1 (ci hs m0 (fun h13 hs => ?_) (fun h13 hs => ?_)))))))))))))))))))
  ·refine cS (ca 18 ?_)
   refine zt 0 rfl (mv (mU m4)) ?_
   refine zt 1 rfl (mv (mU m6)) ?_
   refine zt 2 rfl (nc m0) ?_
   refine zt 3 rfl (fd 6 (fo + 6) m0) ?_
   refine zt 5 rfl (mv (mU m9)) ?_
   refine zt 6 rfl (nc m0) ?_
   refine zt 7 rfl (fd 11 (fo + 11) m0) ?_
   refine zt 9 rfl (mv (mU m12)) ?_
   refine zt 10 rfl (nc m0) ?_
   refine zt 11 rfl (fd 9 (fo + 9) m0) ?_
   refine zt 13 rfl (mv (mU m15)) ?_
   refine zt 14 rfl (nc m0) ?_
   refine zt 15 rfl (fd 8 (fo + 8) m0) ?_
   refine at_group [4, 8, 12, 16] 1 rfl (by kernel_rfl) rfl ?_
   refine yq (ld fo 6 m9 e0 rfl) (yq (ld fo 11 m7 e0 rfl) (yq (ld fo 9 m5 e0 rfl) (yq (ld fo 8 m3 e0 rfl) (qN ?_))))
   obtain ⟨r14, hr14, hs⟩ := bO_of hs
   refine tu 17 rfl (co (.cons m16 (.cons .const (.cons m3 (.cons m2 (.cons m1 (.cons m0 .nil)))))) (eemit_ok hr14 eb _ _) (p3 pn)) ?_
   refine zz ?_
   refine tT (cR (zp (mv (mU (mU m3))) (zp (nc m0) (zp (fd 1 (fo + 1) m0) (rz (st1 fo w1 m0 .const t1) (rN (tB (tB (pkE (p2 pn) (tE ro_dup (pkE (p3 pn) (sf ({ f with line := 6, n := value } : FrV) ?_))))))))))))
   obtain rfl := sI hs
   exact et_fn_end () rfl .nil rfl ((Ent.picks (p1 (p2 (p1 (p0 .nil))))).trans Ent.drop)
  refine q2 (zp (eqL m2 .const) (zp (asg m0) (q1 (ci hs m0 (fun h15 hs => ?_) (fun h15 hs => ?_)))))
  ·refine cR (zp (mv (mU m7)) (zp (nc m0) (zp (fd 1 (fo + 1) m0) (rz (st1 fo w1 m0 .const t0) (rN (tB (tB (pkE (p1 pn) (tE ro_dup (pkE (p2 pn) (sf ({ f with line := 9, n := value } : FrV) ?_)))))))))))
   obtain rfl := sI hs
   exact et_fn_end () rfl .nil rfl ((Ent.picks (p1 (p1 (p1 (p0 .nil))))).trans Ent.drop)
  refine cK (tB (tB (pkE (p1 pn) (tE ro_dup (pkE (p2 pn) (sf ({ f with line := 1, n := value } : FrV) ?_))))))
  obtain rfl := sI hs
  exact et_fn_end () rfl .nil rfl ((Ent.picks (p1 (p1 (p1 (p0 .nil))))).trans Ent.drop)
 refine q2 (zp (eqL m10 .const) (zp (asg m0) (q1 (ci hs m0 (fun h16 hs => ?_) (fun h16 hs => ?_)))))
 ·refine q2 (zp (mv m17) (zp (nc m0) (zp (fd 1 (fo + 1) m0) (rz (st1 fo w1 m0 .const t0) (q3 (zp (mv (mU m1)) (zp (eqL m0 .const) (q1 (ci hs m0 (fun h17 hs => ?_) (fun h17 hs => ?_))))))))))
  ·refine cR (zp (mv (mU m2)) (zp (nc m0) (zp (fd 1 (fo + 1) m0) (rz (st1 fo w1 m0 .const t0) (rN (tB (pkE (p1 pn) (tE ro_dup (pkE (p2 pn) (sf ({ f with line := 7 } : FrV) ?_))))))))))
   obtain rfl := sI hs
   exact et_fn_end () rfl .nil rfl ((Ent.picks (p1 (p1 (p1 (p0 .nil))))).trans Ent.drop)
  refine cK (tB (pkE (p1 pn) (tE ro_dup (pkE (p2 pn) (sf ({ f with line := 1 } : FrV) ?_)))))
  obtain rfl := sI hs
  exact et_fn_end () rfl .nil rfl ((Ent.picks (p1 (p1 (p1 (p0 .nil))))).trans Ent.drop)
 refine cR (zp (mv m17) (zp (nc m0) (zp (fd 1 (fo + 1) m0) (rz (st1 fo w1 m0 .const t0) (rN (tB (pkE (p1 pn) (tE ro_dup (pkE (p2 pn) (sf ({ f with line := 1 } : FrV) ?_))))))))))
 obtain rfl := sI hs
 exact et_fn_end () rfl .nil rfl ((Ent.picks (p1 (p1 (p1 (p0 .nil))))).trans Ent.drop)
def r8backclient_s (c : Cfg) (recs : List RecV) (evs : List Ev) (f : FrV) (code : Int) (value : Int) : Option (ResV × (List RecV) × (List Ev) × FrV) :=
 if 0 ≤ f.i ∧ f.i < (c.subs.length : Int) then
 if f.line = 1 then
  some ((⟨false, 0, 0⟩ : ResV), recs, evs, ({ f with line := 2 } : FrV))
 else
 if f.line = 3 then
  if code = 3 then
   (eemit_s evs 2 c.workers 0 f.i 2).bind fun r24 =>
   some ((⟨false, 0, 0⟩ : ResV), recs, r24, ({ f with line := 8 } : FrV))
  else
  bT (r8fresh_s ((at_ c.subs f.i).prog) (-1)) fun r25 =>
  if 0 ≤ value ∧ value < (recs.length : Int) then
  some ((⟨false, 0, 0⟩ : ResV), (st_ recs value r25), evs, ({ f with line := 4, n := value } : FrV))
  else none
 else
 if f.line = 6 then
  if code = 0 then
   (eemit_s evs 1 c.workers f.n f.i ((at_ c.subs f.i).level)).bind fun r43 =>
   some ((⟨false, 0, 0⟩ : ResV), recs, r43, ({ f with line := 7, b := 1 } : FrV))
  else
  some ((⟨false, 0, 0⟩ : ResV), recs, evs, ({ f with line := 8 } : FrV))
 else
 if f.line = 8 then
  if f.b = 1 then
   some ((⟨false, 0, 0⟩ : ResV), recs, evs, ({ f with line := 9 } : FrV))
  else
  bT (r8following_s c f) fun r46 =>
  some (r46.1, recs, evs, r46.2)
 else
 bT (r8following_s c f) fun r47 =>
 some (r47.1, recs, evs, r47.2)
 else none
theorem r8backclient_ok {code : Int} {value : Int} {o : ResV × (List RecV) × (List Ev) × FrV} (hs : r8backclient_s c recs evs f code value = some o) (eb : Nat) (l : CfgAt) (pl : List (Option Addr × Nat)) (RA : Option Addr) (RC : Nat) (fb fo : Nat)  (B : Nat) (W : World)  : Fn_ Tryz.prog 146 #[vp eb 0, vp fb fo, vi code, vi value] B W [cP eb c l, cfgL c l pl, pts eb 19 [.slice RA recs.length RC], recsS RA RC recs, evsS eb 20 evs, frS fb fo f] (X := Unit) (fun x => .agg #[.bool (o.1.done), vi o.1.code, vi o.1.value]) (fun x => [cP eb c l, cfgL c l pl, pts eb 19 [.slice RA o.2.1.length RC], recsS RA RC o.2.1, evsS eb 20 o.2.2.1, frS fb fo o.2.2.2]) := by
 unfold r8backclient_s at hs
 refine fe4 Tryz.func146 113 rfl (fun F => ?_)
 refine q2 (rn (al [.bool false, zi, zi]) ?_)
 rintro b1
 refine q1 (cS (ct_open pick6 ?_))
 rintro ⟨A2, c2⟩
 obtain ⟨g3, hs⟩ := gO hs
 refine ct_cutG (S := Nat) (G := Unit) (fun _ => True) (fun b4 _ => [(9, vp b4 0), (8, vp b1 0), (0, vp eb 0), (1, vp fb fo), (2, vi code), (3, vi value)]) (fun b4 _ => pts b4 0 [vi ((at_ c.subs f.i).prog), vi ((at_ c.subs f.i).level), vi ((at_ c.subs f.i).deadline)] :: pts fb fo [vi f.kind, vi f.line, vi f.q.top, vi f.q.bottom, vi f.q.ring, vi f.q.cap, vi f.a, vi f.b, vi f.d, vi f.i, vi f.j, vi f.n, vi f.t, vu f.u, vu f.v, vu f.w, vu f.x, .slice A2 f.l.length c2] :: roS encInt 1 A2 c2 f.l :: pts b1 0 [.bool false, zi, zi] :: cP eb c l :: cfgL c l pl :: pts eb 19 [.slice RA recs.length RC] :: recsS RA RC recs :: evsS eb 20 evs :: [F]) ?_ (fun b4 _ _ => (?_ : CT _ _ _ _ _ _ _ _ _))
 ·refine ca 13 ?_
  refine at_key (X := fun A_ => A_ #[true, true, true, true, true, true, true, true, true, false, false, false, false] 4 [(18, vi f.i), (14, .slice l.sa c.subs.length l.sc), (8, vp b1 0), (0, vp eb 0), (1, vp fb fo), (2, vi code), (3, vi value)] (pts fb fo [vi f.kind, vi f.line, vi f.q.top, vi f.q.bottom, vi f.q.ring, vi f.q.cap, vi f.a, vi f.b, vi f.d, vi f.i, vi f.j, vi f.n, vi f.t, vu f.u, vu f.v, vu f.w, vu f.x, .slice A2 f.l.length c2] :: roS encInt 1 A2 c2 f.l :: pts b1 0 [.bool false, zi, zi] :: cP eb c l :: cfgL c l pl :: pts eb 19 [.slice RA recs.length RC] :: recsS RA RC recs :: evsS eb 20 evs :: [F])) ?_ (fun k14 => ?_)
  ·show AT _ _ _ _ _ _ _ _ _ _
   refine x2 9 11 ?_ ?_
   ·refine zs rfl (oq_indexD (enc := Sub.enc) (sz' := 3) (sz := 3) (xs := c.subs) m1 m0 (rd_subs e4) g3 rfl (by kernel_rfl) rfl) ?_
    refine x2 10 11 ?_ ?_
    ·refine zs rfl (oq_loadDS (enc := Sub.enc) (sz := 3) (i := (f.i).toNat) (xs := c.subs) m0 (rd_subs e4) (at_get g3) rfl (by kernel_rfl) rfl) ?_
     refine tn 11 rfl (al [zi, zi, zi]) ?_
     rintro b15
     refine tz 12 rfl (sta 0 m0 m1 t0) ?_
     refine zz ?_
     exact aK b15 () trivial (lc e0 (lc e5 (lc e6 (lc e7 (lc e8 (lc e9 lN)))))) Ent.refl
    refine un rfl (al [zi, zi, zi]) ?_
    rintro b16
    refine za 10 rfl (oq_loadDS (enc := Sub.enc) (sz := 3) (i := (f.i).toNat) (xs := c.subs) m1 (rd_subs e5) (at_get g3) rfl (by kernel_rfl) rfl) ?_
    refine tz 12 rfl (sta 0 m1 m0 t0) ?_
    refine zz ?_
    exact aK b16 () trivial (lc e1 (lc e5 (lc e6 (lc e7 (lc e8 (lc e9 lN)))))) Ent.refl
   refine un rfl (al [zi, zi, zi]) ?_
   rintro b17
   refine za 9 rfl (oq_indexD (enc := Sub.enc) (sz' := 3) (sz := 3) (xs := c.subs) m2 m1 (rd_subs e5) g3 rfl (by kernel_rfl) rfl) ?_
   refine za 10 rfl (oq_loadDS (enc := Sub.enc) (sz := 3) (i := (f.i).toNat) (xs := c.subs) m0 (rd_subs e5) (at_get g3) rfl (by kernel_rfl) rfl) ?_
   refine tz 12 rfl (sta 0 m2 m0 t0) ?_
   refine zz ?_
   exact aK b17 () trivial (lc e2 (lc e5 (lc e6 (lc e7 (lc e8 (lc e9 lN)))))) Ent.refl
  refine zt 0 rfl (mv m1) ?_
  refine zt 1 rfl (nc m0) ?_
  refine zt 2 rfl (fd 0 0 m0) ?_
  refine zt 3 rfl (fd 10 10 m0) ?_
  refine zt 5 rfl (mv m6) ?_
  refine zt 6 rfl (nc m0) ?_
  refine zt 7 rfl (fd 9 (fo + 9) m0) ?_
  refine x3 4 8 11 ?_ ?_ ?_
  ·refine zs rfl (ld 0 10 m3 e3 rfl) ?_
   refine x2 8 11 ?_ ?_
   ·refine zs rfl (ld fo 9 m1 e0 rfl) ?_
    exact at_use k14 (lc e0 (lc e1 (lc e9 (lc e10 (lc e11 (lc e12 (lc e13 lN))))))) Ent.refl
   refine un rfl (al [zi, zi, zi]) ?_
   rintro b18
   refine za 8 rfl (ld fo 9 m2 e1 rfl) ?_
   refine za 9 rfl (oq_indexD (enc := Sub.enc) (sz' := 3) (sz := 3) (xs := c.subs) m2 m0 (rd_subs e5) g3 rfl (by kernel_rfl) rfl) ?_
   refine za 10 rfl (oq_loadDS (enc := Sub.enc) (sz := 3) (i := (f.i).toNat) (xs := c.subs) m0 (rd_subs e5) (at_get g3) rfl (by kernel_rfl) rfl) ?_
   refine tz 12 rfl (sta 0 m3 m0 t0) ?_
   refine zz ?_
   exact aK b18 () trivial (lc e3 (lc e12 (lc e13 (lc e14 (lc e15 (lc e16 lN)))))) Ent.refl
  ·refine zs rfl (ld fo 9 m0 e0 rfl) ?_
   refine x2 4 11 ?_ ?_
   ·refine zs rfl (ld 0 10 m4 e3 rfl) ?_
    exact at_use k14 (lc e1 (lc e0 (lc e9 (lc e10 (lc e11 (lc e12 (lc e13 lN))))))) Ent.refl
   refine un rfl (al [zi, zi, zi]) ?_
   rintro b19
   refine za 4 rfl (ld 0 10 m5 e4 rfl) ?_
   refine za 9 rfl (oq_indexD (enc := Sub.enc) (sz' := 3) (sz := 3) (xs := c.subs) m0 m2 (rd_subs e5) g3 rfl (by kernel_rfl) rfl) ?_
   refine za 10 rfl (oq_loadDS (enc := Sub.enc) (sz := 3) (i := (f.i).toNat) (xs := c.subs) m0 (rd_subs e5) (at_get g3) rfl (by kernel_rfl) rfl) ?_
   refine tz 12 rfl (sta 0 m3 m0 t0) ?_
   refine zz ?_
   exact aK b19 () trivial (lc e3 (lc e12 (lc e13 (lc e14 (lc e15 (lc e16 lN)))))) Ent.refl
  refine un rfl (al [zi, zi, zi]) ?_
  rintro b20
  refine at_group [4, 8, 9, 10] 1 rfl (by kernel_rfl) rfl ?_
  refine yq (ld 0 10 m4 e4 rfl) (yq (ld fo 9 m2 e1 rfl) (yq (oq_indexD (enc := Sub.enc) (sz' := 3) (sz := 3) (xs := c.subs) m1 m0 (rd_subs e5) g3 rfl (by kernel_rfl) rfl) (yq (oq_loadDS (enc := Sub.enc) (sz := 3) (i := (f.i).toNat) (xs := c.subs) m0 (rd_subs e5) (at_get g3) rfl (by kernel_rfl) rfl) (qN (tz 12 rfl (sta 0 m4 m0 t0) ?_)))))
  refine zz ?_
  exact aK b20 () trivial (lc e4 (lc e12 (lc e13 (lc e14 (lc e15 (lc e16 lN)))))) Ent.refl
 refine cS (q2 (zp (mv m3) (zp (nc m0) (zp (fd 1 (fo + 1) m0) (zq (ld fo 1 m0 e1 rfl) (q1 (cB (q2 (zp (eqL m0 .const) (zp (asg m0) (q1 (ci hs m0 (fun h21 hs => ?_) (fun h21 hs => ?_)))))))))))))
 ·refine cR (zp (mv m9) (zp (nc m0) (zp (fd 1 (fo + 1) m0) (rz (st1 fo w1 m0 .const t1) (rN (tB (tT (q2 (zp bz (rz (sta 0 m11 m0 t3) (q4 (pkE (p2 pn) (tE ro_dup (pkE (p3 pn) (sf ({ f with line := 2 } : FrV) ?_)))))))))))))))
  obtain rfl := sI hs
  exact fa e11 e3 (d3 (eP (p1 (p1 (p1 (p1 (p1 (p1 (p1 (p1 pn))))))))))
 refine q2 (zp (eqL m2 .const) (zp (asg m0) (q1 (ci hs m0 (fun h22 hs => ?_) (fun h22 hs => ?_)))))
 ·refine cS (q2 (zp (mv m12) (zp (eqL m0 .const) (q1 (ci hs m0 (fun h23 hs => ?_) (fun h23 hs => ?_))))))
  ·refine cS (ca 11 ?_)
   refine zt 0 rfl (mv m12) ?_
   refine zt 1 rfl (mv m13) ?_
   refine zt 2 rfl (nc m0) ?_
   refine zt 3 rfl (fd 0 0 m0) ?_
   refine zt 4 rfl (fd 0 0 m0) ?_
   refine zt 6 rfl (mv m18) ?_
   refine zt 7 rfl (nc m0) ?_
   refine zt 8 rfl (fd 9 (fo + 9) m0) ?_
   refine at_group [5, 9] 1 rfl (by kernel_rfl) rfl ?_
   refine yq (ld 0 0 m3 e4 rfl) (yq (ld fo 9 m1 e1 rfl) (qN ?_))
   obtain ⟨r24, hr24, hs⟩ := bO_of hs
   refine tu 10 rfl (co (.cons m9 (.cons .const (.cons m1 (.cons .const (.cons m0 (.cons .const .nil)))))) (eemit_ok hr24 eb _ _) (p8 pn)) ?_
   refine zz ?_
   refine tT (q2 (zp (mv (mU m4)) (zp (nc m0) (zp (fd 1 (fo + 1) m0) (rz (st1 fo w1 m0 .const t2) (q3 (zp bz (rz (sta 0 (mU m6) m0 t4) (q4 (tR (bR (tR (pkE (p3 pn) (tE ro_dup (pkE (p4 pn) (sf ({ f with line := 8 } : FrV) ?_))))))))))))))))
   obtain rfl := sI hs
   exact fa (eU e6) e4 (d3 (eP (p1 (p2 (p2 (p2 (p2 (p2 (p2 (p1 pn))))))))))
  refine cK (tT (cS ?_))
  obtain ⟨r25, hr25, hs⟩ := bF hs
  obtain ⟨g26, hs⟩ := gO hs
  refine ct_cutG (S := Unit) (G := Unit) (fun _ => True) (fun _ _ => [(8, vp b1 0), (1, vp fb fo), (3, vi value)]) (fun _ _ => pts eb 19 [.slice RA ((st_ recs value r25).length) RC] :: recsS RA RC (st_ recs value r25) :: pts b4 0 [vi ((at_ c.subs f.i).prog), vi ((at_ c.subs f.i).level), vi ((at_ c.subs f.i).deadline)] :: pts fb fo [vi f.kind, vi f.line, vi f.q.top, vi f.q.bottom, vi f.q.ring, vi f.q.cap, vi f.a, vi f.b, vi f.d, vi f.i, vi f.j, vi f.n, vi f.t, vu f.u, vu f.v, vu f.w, vu f.x, .slice A2 f.l.length c2] :: roS encInt 1 A2 c2 f.l :: pts b1 0 [.bool false, zi, zi] :: cP eb c l :: cfgL c l pl :: evsS eb 20 evs :: [F]) ?_ (fun _ _ _ => (?_ : CT _ _ _ _ _ _ _ _ _))
  ·refine ca 10 ?_
   refine at_key (X := fun A_ => ∀ (A27 : Option Addr) (c27 : Nat), A_ #[true, true, true, true, true, true, true, true, false, false] 2 [(59, .agg #[vi r25.prog, vi r25.parent, vi r25.pc, vi r25.left, vi r25.waiting, .slice A27 r25.kids.length c27, .bool (r25.started)]), (55, .slice RA recs.length RC), (56, vi value), (8, vp b1 0), (1, vp fb fo), (3, vi value)] (roS encInt 1 A27 c27 r25.kids :: pts b4 0 [vi ((at_ c.subs f.i).prog), vi ((at_ c.subs f.i).level), vi ((at_ c.subs f.i).deadline)] :: pts fb fo [vi f.kind, vi f.line, vi f.q.top, vi f.q.bottom, vi f.q.ring, vi f.q.cap, vi f.a, vi f.b, vi f.d, vi f.i, vi f.j, vi f.n, vi f.t, vu f.u, vu f.v, vu f.w, vu f.x, .slice A2 f.l.length c2] :: roS encInt 1 A2 c2 f.l :: pts b1 0 [.bool false, zi, zi] :: cP eb c l :: cfgL c l pl :: pts eb 19 [.slice RA recs.length RC] :: recsS RA RC recs :: evsS eb 20 evs :: [F])) ?_ (fun k33 => ?_)
   ·intro A27 c27
    show AT _ _ _ _ _ _ _ _ _ _
    refine at_focus (value).toNat pick8 (by omega) (fun rb34 ro34 hA35 => ?_)
    subst hA35
    rw [at_eq (by omega)]
    refine at_open pick0 ?_
    rintro ⟨A36, c36⟩
    refine za 8 rfl (op_index (i := (value).toNat) (o' := ro34 + (value).toNat * 7) m1 m2 (by omega) (by omega) (by kernel_rfl) rfl).q ?_
    refine tz 9 rfl (sta (ro34 + (value).toNat * 7) m0 m1 t0) ?_
    refine zz ?_
    exact pkE (p3 pn) (tE ro_dup (pkE (p2 pn) (tE (shut (N := itN recC RecV.kids rb34 (ro34 + (value).toNat * 7) r25) (A27, c27) rfl) (pkE (p0 (p2 pn)) (tE (unfocus_st (xs := recs) (by have := g26; omega)) (pkE (p9 pn) (tE (ent_rs (m' := (st_ recs value r25).length) (by simp [st_])) (aK () () trivial (lc e4 (lc e5 (lc e6 lN))) (d2 (eP (p2 (p2 pn))))))))))))
   refine zt 0 rfl (mv m12) ?_
   refine zt 1 rfl (nc m0) ?_
   refine zt 2 rfl (fd 19 19 m0) ?_
   refine zt 4 rfl (mv m18) ?_
   refine zt 5 rfl (fd 0 0 m14) ?_
   refine x2 3 6 ?_ ?_
   ·refine zs rfl (ld 19 0 m2 e6 rfl) ?_
    refine za 6 rfl (ld 0 0 m1 e0 rfl) ?_
    refine tn 7 rfl (co (.cons m0 (.cons .const .nil)) (r8fresh_ok hr25  _ _) pn) ?_
    rintro ⟨A38, c38⟩
    exact at_use (k33 A38 c38) (lc e0 (lc e2 (lc e4 (lc e19 (lc (eU e1) (lc (eU e3) lN)))))) Ent.refl
   refine zs rfl (ld 0 0 m0 e0 rfl) ?_
   refine x2 3 7 ?_ ?_
   ·refine zs rfl (ld 19 0 m3 e6 rfl) ?_
    refine tn 7 rfl (co (.cons m1 (.cons .const .nil)) (r8fresh_ok hr25  _ _) pn) ?_
    rintro ⟨A39, c39⟩
    exact at_use (k33 A39 c39) (lc e0 (lc e1 (lc e4 (lc e19 (lc (eU e1) (lc (eU e3) lN)))))) Ent.refl
   refine un rfl (co (.cons m0 (.cons .const .nil)) (r8fresh_ok hr25  _ _) pn) ?_
   rintro ⟨A40, c40⟩
   refine za 3 rfl (ld 19 0 m4 e7 rfl) ?_
   exact at_use (k33 A40 c40) (lc e1 (lc e0 (lc e4 (lc e19 (lc (eU e1) (lc (eU e3) lN)))))) Ent.refl
  refine cR (zp (mv m1) (zp (mv m2) (zp (mv m4) (zp (nc m2) (zp (fd 11 (fo + 11) m0) (rz (st1 fo w11 m0 m2 t3) (zp (nc m3) (zp (fd 1 (fo + 1) m0) (rz (st1 fo w1 m0 .const t3) (rN (tB (tT (q2 (zp bz (rz (sta 0 m8 m0 t5) (q4 (pkE (p4 pn) (tE ro_dup (pkE (p5 pn) (sf ({ f with line := 4, n := value } : FrV) ?_))))))))))))))))))))
  obtain rfl := sI hs
  exact fa e8 e5 (d3 (eP (p1 (p3 (p3 (p3 (p3 (p1 (p1 (p1 pn))))))))))
 refine q2 (zp (eqL m4 .const) (zp (asg m0) (q1 (ci hs m0 (fun h41 hs => ?_) (fun h41 hs => ?_)))))
 ·refine q2 (zp (mv m13) (zp (nc m0) (zp (fd 1 (fo + 1) m0) (rz (st1 fo w1 m0 .const t1) (q3 (zp (mv m17) (zp (eqL m0 .const) (q1 (ci hs m0 (fun h42 hs => ?_) (fun h42 hs => ?_))))))))))
  ·refine cS (ca 17 ?_)
   refine zt 0 rfl (mv m17) ?_
   refine zt 1 rfl (mv m18) ?_
   refine zt 2 rfl (nc m0) ?_
   refine zt 3 rfl (fd 0 0 m0) ?_
   refine zt 4 rfl (fd 0 0 m0) ?_
   refine zt 6 rfl (mv (mU m3)) ?_
   refine zt 7 rfl (nc m0) ?_
   refine zt 8 rfl (fd 11 (fo + 11) m0) ?_
   refine zt 10 rfl (mv (mU m6)) ?_
   refine zt 11 rfl (nc m0) ?_
   refine zt 12 rfl (fd 9 (fo + 9) m0) ?_
   refine zt 14 rfl (fd 1 1 (mU m6)) ?_
   refine at_group [5, 9, 13, 15] 1 rfl (by kernel_rfl) rfl ?_
   refine yq (ld 0 0 m7 e4 rfl) (yq (ld fo 11 m5 e1 rfl) (yq (ld fo 9 m3 e1 rfl) (yq (ld 0 1 m3 e0 rfl) (qN ?_))))
   obtain ⟨r43, hr43, hs⟩ := bO_of hs
   refine tu 16 rfl (co (.cons m15 (.cons .const (.cons m3 (.cons m2 (.cons m1 (.cons m0 .nil)))))) (eemit_ok hr43 eb _ _) (p8 pn)) ?_
   refine zz ?_
   refine tT (cR (zp (mv (mU m15)) (zp (mv (mU m16)) (zp (nc m1) (zp (fd 7 (fo + 7) m0) (rz (st1 fo w7 m0 .const t2) (zp (nc m2) (zp (fd 1 (fo + 1) m0) (rz (st1 fo w1 m0 .const t2) (rN (tB (tT (q2 (zp bz (rz (sta 0 (mU (mU m0)) m0 t4) (q4 (pkE (p3 pn) (tE ro_dup (pkE (p4 pn) (sf ({ f with line := 7, b := 1 } : FrV) ?_))))))))))))))))))))
   obtain rfl := sI hs
   exact fa (eU (eU e0)) e4 (d3 (eP (p1 (p2 (p2 (p2 (p2 (p2 (p2 (p1 pn))))))))))
  refine cK (tB (tT (q2 (zp bz (rz (sta 0 m17 m0 t3) (q4 (pkE (p2 pn) (tE ro_dup (pkE (p3 pn) (sf ({ f with line := 8 } : FrV) ?_))))))))))
  obtain rfl := sI hs
  exact fa e17 e3 (d3 (eP (p1 (p1 (p1 (p1 (p1 (p1 (p1 (p1 pn))))))))))
 refine q2 (zp (eqL m6 .const) (zp (asg m0) (q1 (ci hs m0 (fun h44 hs => ?_) (fun h44 hs => ?_)))))
 ·refine cS (q2 (zp (mv m15) (zp (nc m0) (zp (fd 7 (fo + 7) m0) (zq (ld fo 7 m0 e1 rfl) (zp (eqL m0 .const) (q1 (ci hs m0 (fun h45 hs => ?_) (fun h45 hs => ?_)))))))))
  ·refine q2 (zp (mv (mU m0)) (zp (nc m0) (zp (fd 1 (fo + 1) m0) (rz (st1 fo w1 m0 .const t1) (q3 (zp bz (rz (sta 0 (mU m2) m0 t3) (q4 (tR (bR (tR (pkE (p2 pn) (tE ro_dup (pkE (p3 pn) (sf ({ f with line := 9 } : FrV) ?_)))))))))))))))
   obtain rfl := sI hs
   exact fa (eU e2) e3 (d3 (eP (p1 (p1 (p1 (p1 (p1 (p1 (p1 (p1 pn))))))))))
  refine cK (tT (q2 (zp (mv m19) (zp (mv (mU m1)) (pkR (p2 pn) (rE ro_dup (pkR (p3 pn) (rE (shut (N := itN frC FrV.l fb fo f) (A2, c2) rfl) ?_))))))))
  obtain ⟨r46, hr46, hs⟩ := bF hs
  refine ru (co (.cons m1 (.cons m0 .nil)) (r8following_ok hr46 eb l fb fo _ _) (p4 (p0 pn))) (rz (sta 0 (mU m1) m0 t4) (q4 (bR (tR ?_))))
  obtain rfl := sI hs
  exact fa (eU e1) e4 (d3 (eP (p2 (p2 (p2 (p0 (p1 (p1 (p1 (p1 pn))))))))))
 refine q2 (zp (mv m14) (zp (mv m16) (pkR (p2 pn) (rE ro_dup (pkR (p3 pn) (rE (shut (N := itN frC FrV.l fb fo f) (A2, c2) rfl) ?_))))))
 obtain ⟨r47, hr47, hs⟩ := bF hs
 refine ru (co (.cons m1 (.cons m0 .nil)) (r8following_ok hr47 eb l fb fo _ _) (p4 (p0 pn))) (rz (sta 0 m16 m0 t4) (q4 (bR (tR ?_))))
 obtain rfl := sI hs
 exact fa e16 e4 (d3 (eP (p2 (p2 (p2 (p0 (p1 (p1 (p1 (p1 pn))))))))))
def r8backrun_s (c : Cfg) (recs : List RecV) (evs : List Ev) (f : FrV) (code : Int) (value : Int) : Option (ResV × (List RecV) × (List Ev) × FrV) :=
 (r8top_s f).bind fun r2 =>
 if 0 ≤ r2 ∧ r2 < (recs.length : Int) then
 if f.line = 5 then
  (eprogram_s c recs r2).bind fun r11 =>
  if 0 ≤ (at_ recs r2).pc ∧ (at_ recs r2).pc < (r11.length : Int) then
  if code = 3 then
   if (((0 + (at_ recs r2).kids.length : Nat)) : Int) < 1000000000000 then
   if ((((0 + (at_ recs r2).kids.length) + 1 : Nat)) : Int) < 1000000000000 then
   (eemit_s evs 4 f.a r2 0 0).bind fun r70 =>
   some ((⟨false, 0, 0⟩ : ResV), (st_ recs r2 ({ (at_ recs r2) with pc := (wi ((at_ recs r2).pc + 1)), kids := (([] ++ (at_ recs r2).kids) ++ [(-1)]) } : RecV)), r70, ({ f with line := 1 } : FrV))
   else none
   else none
  else
  if (((0 + (at_ recs r2).kids.length : Nat)) : Int) < 1000000000000 then
  if ((((0 + (at_ recs r2).kids.length) + 1 : Nat)) : Int) < 1000000000000 then
  bT (r8fresh_s ((at_ r11 ((at_ recs r2).pc)).a) r2) fun r77 =>
  if 0 ≤ value ∧ value < ((st_ recs r2 ({ (at_ recs r2) with pc := (wi ((at_ recs r2).pc + 1)), kids := (([] ++ (at_ recs r2).kids) ++ [value]) } : RecV)).length : Int) then
  some ((⟨false, 0, 0⟩ : ResV), (st_ (st_ recs r2 ({ (at_ recs r2) with pc := (wi ((at_ recs r2).pc + 1)), kids := (([] ++ (at_ recs r2).kids) ++ [value]) } : RecV)) value r77), evs, ({ f with line := 6, d := (at_ r11 ((at_ recs r2).pc)).b, n := value } : FrV))
  else none
  else none
  else none
  else none
 else
 if f.line = 6 then
  (eemit_s evs 3 f.a f.n r2 f.d).bind fun r100 =>
  some ((⟨false, 0, 0⟩ : ResV), recs, r100, ({ f with line := 7 } : FrV))
 else
 if f.line = 7 then
  if code = 3 then
   some ((⟨false, 0, 0⟩ : ResV), recs, evs, ({ f with line := 9 } : FrV))
  else
  some ((⟨false, 0, 0⟩ : ResV), recs, evs, ({ f with line := 8 } : FrV))
 else
 if f.line = 8 then
  some ((⟨false, 0, 0⟩ : ResV), recs, evs, ({ f with line := 1 } : FrV))
 else
 if f.line = 9 then
  if code = 1 then
   if (((0 + f.l.length : Nat)) : Int) < 1000000000000 then
   if ((((0 + f.l.length) + 1 : Nat)) : Int) < 1000000000000 then
   some ((⟨false, 0, 0⟩ : ResV), recs, evs, ({ f with line := 1, l := (([] ++ f.l) ++ [f.n]) } : FrV))
   else none
   else none
  else
  some ((⟨false, 0, 0⟩ : ResV), recs, evs, ({ f with line := 1 } : FrV))
 else
 if f.line = 14 then
  (eemit_s evs 7 f.a r2 0 f.t).bind fun r156 =>
  (r8leave_s f).bind fun r157 =>
  some (r157.1, recs, r156, r157.2)
 else
 if f.line = 20 then
  if code = 3 then
   some ((⟨false, 0, 0⟩ : ResV), recs, evs, ({ f with line := 22, t := value } : FrV))
  else
  some ((⟨false, 0, 0⟩ : ResV), recs, evs, ({ f with line := 21, t := value } : FrV))
 else
 if f.line = 21 then
  (r8leave_s f).bind fun r161 =>
  some (r161.1, recs, evs, r161.2)
 else
 if f.line = 22 then
  if code ≠ 1 then
   (r8leave_s f).bind fun r164 =>
   some (r164.1, recs, evs, r164.2)
  else
  if 0 ≤ (wi (((f.l.length : Nat) : Int) - 1)) ∧ (wi (((f.l.length : Nat) : Int) - 1)) ≤ (f.l.length : Int) then
  if (((0 + (f.l.take ((wi (((f.l.length : Nat) : Int) - 1))).toNat).length : Nat)) : Int) < 1000000000000 then
  if ((((0 + (f.l.take ((wi (((f.l.length : Nat) : Int) - 1))).toNat).length) + 1 : Nat)) : Int) < 1000000000000 then
  some ((⟨false, 0, 0⟩ : ResV), recs, evs, ({ f with line := 1, l := (([] ++ (f.l.take ((wi (((f.l.length : Nat) : Int) - 1))).toNat)) ++ [f.n]) } : FrV))
  else none
  else none
  else none
 else
 some ((⟨false, 0, 0⟩ : ResV), recs, evs, f)
 else none
theorem r8backrun_ok {code : Int} {value : Int} {o : ResV × (List RecV) × (List Ev) × FrV} (hs : r8backrun_s c recs evs f code value = some o) (eb : Nat) (l : CfgAt) (pl : List (Option Addr × Nat)) (RA : Option Addr) (RC : Nat) (fb fo : Nat)  (B : Nat) (W : World)  : Fn_ Tryz.prog 144 #[vp eb 0, vp fb fo, vi code, vi value] B W [cP eb c l, cfgL c l pl, pts eb 19 [.slice RA recs.length RC], recsS RA RC recs, evsS eb 20 evs, frS fb fo f] (X := Unit) (fun x => .agg #[.bool (o.1.done), vi o.1.code, vi o.1.value]) (fun x => [cP eb c l, cfgL c l pl, pts eb 19 [.slice RA o.2.1.length RC], recsS RA RC o.2.1, evsS eb 20 o.2.2.1, frS fb fo o.2.2.2]) := by
 unfold r8backrun_s at hs
 refine fe4 Tryz.func144 222 rfl (fun F => ?_)
 refine q2 (rn (al [.bool false, zi, zi]) ?_)
 rintro b1
 refine q3 (zp (mv m2) ?_)
 obtain ⟨r2, hr2, hs⟩ := bO_of hs
 refine zq (cq (.cons m0 .nil) (r8top_ok hr2 fb fo _ _) (p6 pn)) (zp (asg m0) (q1 (cS (ct_open pick6 ?_))))
 rintro ⟨A3, c3⟩
 refine ct_fact (fun _ hw => (ro_sl hw.2.2 e1).2) (fun hc4 => ?_)
 refine cR (zp (mv m4) (zp (nc m0) (zp (fd 19 19 m0) (zq (ld 19 0 m0 e5 rfl) (zp (mv m4) ?_)))))
 obtain ⟨g5, hs⟩ := gO hs
 refine rt_focus (r2).toNat pick6 (by omega) (fun rb6 ro6 hA7 => ?_)
 subst hA7
 rw [at_eq (by omega)]
 refine rt_open pick0 ?_
 rintro ⟨A8, c8⟩
 refine rt_fact (fun _ hw => (ro_sl hw.2.2 e1).2) (fun hc9 => ?_)
 refine zp (op_index (i := (r2).toNat) (o' := ro6 + (r2).toNat * 7) m1 m0 (by omega) (by omega) (by kernel_rfl) rfl) (zp (asg m0) (q1 (cS (q2 (zp (mv m12) (zp (nc m0) (zp (fd 1 (fo + 1) m0) (zq (ld fo 1 m0 e3 rfl) (q1 (cB (q2 (zp (eqL m0 .const) (zp (asg m0) (q1 (ci hs m0 (fun h10 hs => ?_) (fun h10 hs => ?_))))))))))))))))
 ·refine cS ?_
  obtain ⟨r11, hr11, hs⟩ := bO_of hs
  obtain ⟨g12, hs⟩ := gO hs
  refine ct_cutG (S := Nat) (G := Unit) (fun _ => True) (fun b18 _ => [(11, vp b18 0), (10, vp rb6 (ro6 + (r2).toNat * 7)), (9, vi r2), (8, vp b1 0), (0, vp eb 0), (1, vp fb fo), (2, vi code), (3, vi value)]) (fun b18 _ => recsS (some ⟨rb6, ro6, none⟩) RC recs :: pts b18 0 [vi ((at_ r11 ((at_ recs r2).pc)).op), vi ((at_ r11 ((at_ recs r2).pc)).a), vi ((at_ r11 ((at_ recs r2).pc)).b)] :: cP eb c l :: cfgL c l pl :: pts eb 19 [.slice (some ⟨rb6, ro6, none⟩) recs.length RC] :: pts fb fo [vi f.kind, vi f.line, vi f.q.top, vi f.q.bottom, vi f.q.ring, vi f.q.cap, vi f.a, vi f.b, vi f.d, vi f.i, vi f.j, vi f.n, vi f.t, vu f.u, vu f.v, vu f.w, vu f.x, .slice A3 f.l.length c3] :: roS encInt 1 A3 c3 f.l :: pts b1 0 [.bool false, zi, zi] :: evsS eb 20 evs :: [F]) ?_ (fun b18 _ _ => (?_ : CT _ _ _ _ _ _ _ _ _))
  ·refine ca 11 ?_
   refine at_key (X := fun A_ => ∀ (b21 : Nat) (A13 : Option Addr) (c13 : Nat), A_ #[true, true, true, true, true, true, false, false, false, true, false] 4 [(11, vp b21 0), (28, .slice A13 r11.length c13), (31, vp rb6 (ro6 + (r2).toNat * 7 + 2)), (10, vp rb6 (ro6 + (r2).toNat * 7)), (9, vi r2), (8, vp b1 0), (0, vp eb 0), (1, vp fb fo), (2, vi code), (3, vi value)] (pts b21 0 [zi, zi, zi] :: rdS Ins.enc 3 A13 r11 :: cP eb c l :: cfgL c l pl :: pts eb 19 [.slice (some ⟨rb6, ro6, none⟩) recs.length RC] :: recsS (some ⟨rb6, ro6, none⟩) RC recs :: roS encInt 1 A8 c8 ((at_ recs r2).kids) :: pts fb fo [vi f.kind, vi f.line, vi f.q.top, vi f.q.bottom, vi f.q.ring, vi f.q.cap, vi f.a, vi f.b, vi f.d, vi f.i, vi f.j, vi f.n, vi f.t, vu f.u, vu f.v, vu f.w, vu f.x, .slice A3 f.l.length c3] :: roS encInt 1 A3 c3 f.l :: pts b1 0 [.bool false, zi, zi] :: evsS eb 20 evs :: [F])) ?_ (fun k35 => ?_)
   ·intro b21 A13 c13
    show AT _ _ _ _ _ _ _ _ _ _
    refine at_focus (r2).toNat pick5 (by omega) (fun rb36 ro36 hA37 => ?_)
    obtain ⟨rb36e, ro36e⟩ := addr_inj hA37
    subst rb36e ro36e
    rw [at_eq (by omega)]
    refine at_open pick0 ?_
    rintro ⟨A38, c38⟩
    refine at_fact (fun _ hw => (ro_sl hw.2.2 e1).2) (fun hc39 => ?_)
    refine za 6 rfl (ld (ro6 + (r2).toNat * 7) 2 m2 e0 rfl) ?_
    refine za 7 rfl (oq_indexD (enc := Ins.enc) (sz' := 3) (sz := 3) (xs := r11) m2 m0 (rd_rd e4) g12 rfl (by kernel_rfl) rfl) ?_
    refine za 8 rfl (oq_loadDS (enc := Ins.enc) (sz := 3) (i := ((at_ recs r2).pc).toNat) (xs := r11) m0 (rd_rd e4) (at_get g12) rfl (by kernel_rfl) rfl) ?_
    refine tz 10 rfl (sta 0 m3 m0 t3) ?_
    refine zz ?_
    refine pkE (p1 pn) (tE ro_dup (pkE (p2 pn) (sr (at_ recs r2) ?_)))
    refine pkE (p0 (p1 pn)) (tE (unfocus (xs := recs) (by have := g5; omega)) ?_)
    rw [set_at g5]
    exact aK b21 () trivial (lc e3 (lc e6 (lc e7 (lc e8 (lc e9 (lc e10 (lc e11 (lc e12 lN)))))))) (d3 (eP (p1 (p2 (p5 pn)))))
   refine zt 0 rfl (mv m17) ?_
   refine zt 1 rfl (mv m14) ?_
   refine zt 3 rfl (mv m8) ?_
   refine zt 4 rfl (nc m0) ?_
   refine zt 5 rfl (fd 2 (ro6 + (r2).toNat * 7 + 2) m0) ?_
   refine x3 2 6 9 ?_ ?_ ?_
   ·refine uE (Ent.picks (p1 .nil)) (uE ro_dup (uE (Ent.picks (p2 (p0 .nil))) (uE (it_shut (enc := recC) (lst := RecV.kids) (x := (at_ recs r2)) (A := A8) (c := c8) (by simp [recC])) (uE (Ent.picks (p0 (p1 .nil))) (uE (unfocus (xs := recs) (by have := g5; omega)) ?_)))))
    rw [set_at g5]
    refine un rfl (co (.cons m4 (.cons m3 .nil)) (eprogram_ok hr11 eb l pl (some ⟨rb6, ro6, none⟩) RC _ _) (p5 (p5 (p5 (p0 pn))))) ?_
    rintro ⟨A41, c41⟩
    refine x2 6 9 ?_ ?_
    ·refine st_focus (r2).toNat pick4 (by omega) (fun rb42 ro42 hA43 => ?_)
     obtain ⟨rb42e, ro42e⟩ := addr_inj hA43
     subst rb42e ro42e
     rw [at_eq (by omega)]
     refine st_open pick0 ?_
     rintro ⟨A44, c44⟩
     refine st_fact (fun _ hw => (ro_sl hw.2.2 e1).2) (fun hc45 => ?_)
     refine zs rfl (ld (ro6 + (r2).toNat * 7) 2 m1 e0 rfl) ?_
     refine x2 7 9 ?_ ?_
     ·refine zs rfl (oq_indexD (enc := Ins.enc) (sz' := 3) (sz := 3) (xs := r11) m1 m0 (rd_rd e3) g12 rfl (by kernel_rfl) rfl) ?_
      refine x2 8 9 ?_ ?_
      ·refine zs rfl (oq_loadDS (enc := Ins.enc) (sz := 3) (i := ((at_ recs r2).pc).toNat) (xs := r11) m0 (rd_rd e3) (at_get g12) rfl (by kernel_rfl) rfl) ?_
       refine tn 9 rfl (al [zi, zi, zi]) ?_
       rintro b46
       refine tz 10 rfl (sta 0 m0 m1 t0) ?_
       refine zz ?_
       refine pkE (p2 pn) (tE ro_dup (pkE (p3 pn) (sr (at_ recs r2) ?_)))
       refine pkE (p0 (p2 pn)) (tE (unfocus (xs := recs) (by have := g5; omega)) ?_)
       rw [set_at g5]
       exact aK b46 () trivial (lc e0 (lc e16 (lc (eU e3) (lc (eU e6) (lc (eU e7) (lc (eU e8) (lc (eU e9) (lc (eU e10) lN)))))))) (d3 (eP (p1 (p2 (p5 pn)))))
      refine un rfl (al [zi, zi, zi]) ?_
      rintro b47
      refine za 8 rfl (oq_loadDS (enc := Ins.enc) (sz := 3) (i := ((at_ recs r2).pc).toNat) (xs := r11) m1 (rd_rd e4) (at_get g12) rfl (by kernel_rfl) rfl) ?_
      refine tz 10 rfl (sta 0 m1 m0 t0) ?_
      refine zz ?_
      refine pkE (p2 pn) (tE ro_dup (pkE (p3 pn) (sr (at_ recs r2) ?_)))
      refine pkE (p0 (p2 pn)) (tE (unfocus (xs := recs) (by have := g5; omega)) ?_)
      rw [set_at g5]
      exact aK b47 () trivial (lc e1 (lc e16 (lc (eU e3) (lc (eU e6) (lc (eU e7) (lc (eU e8) (lc (eU e9) (lc (eU e10) lN)))))))) (d3 (eP (p1 (p2 (p5 pn)))))
     refine un rfl (al [zi, zi, zi]) ?_
     rintro b48
     refine za 7 rfl (oq_indexD (enc := Ins.enc) (sz' := 3) (sz := 3) (xs := r11) m2 m1 (rd_rd e4) g12 rfl (by kernel_rfl) rfl) ?_
     refine za 8 rfl (oq_loadDS (enc := Ins.enc) (sz := 3) (i := ((at_ recs r2).pc).toNat) (xs := r11) m0 (rd_rd e4) (at_get g12) rfl (by kernel_rfl) rfl) ?_
     refine tz 10 rfl (sta 0 m2 m0 t0) ?_
     refine zz ?_
     refine pkE (p2 pn) (tE ro_dup (pkE (p3 pn) (sr (at_ recs r2) ?_)))
     refine pkE (p0 (p2 pn)) (tE (unfocus (xs := recs) (by have := g5; omega)) ?_)
     rw [set_at g5]
     exact aK b48 () trivial (lc e2 (lc e16 (lc (eU e3) (lc (eU e6) (lc (eU e7) (lc (eU e8) (lc (eU e9) (lc (eU e10) lN)))))))) (d3 (eP (p1 (p2 (p5 pn)))))
    refine un rfl (al [zi, zi, zi]) ?_
    rintro b49
    exact at_use (k35 b49 A41 c41) (lc e0 (lc e1 (lc e2 (lc e13 (lc (eU e0) (lc (eU e3) (lc (eU e4) (lc (eU e5) (lc (eU e6) (lc (eU e7) lN)))))))))) Ent.refl
   ·refine zs rfl (ld (ro6 + (r2).toNat * 7) 2 m0 e0 rfl) ?_
    refine x2 2 9 ?_ ?_
    ·refine uE (Ent.picks (p1 .nil)) (uE ro_dup (uE (Ent.picks (p2 (p0 .nil))) (uE (it_shut (enc := recC) (lst := RecV.kids) (x := (at_ recs r2)) (A := A8) (c := c8) (by simp [recC])) (uE (Ent.picks (p0 (p1 .nil))) (uE (unfocus (xs := recs) (by have := g5; omega)) ?_)))))
     rw [set_at g5]
     refine un rfl (co (.cons m5 (.cons m4 .nil)) (eprogram_ok hr11 eb l pl (some ⟨rb6, ro6, none⟩) RC _ _) (p5 (p5 (p5 (p0 pn))))) ?_
     rintro ⟨A50, c50⟩
     refine x2 7 9 ?_ ?_
     ·refine zs rfl (oq_indexD (enc := Ins.enc) (sz' := 3) (sz := 3) (xs := r11) m0 m1 (rd_rd e0) g12 rfl (by kernel_rfl) rfl) ?_
      refine x2 8 9 ?_ ?_
      ·refine zs rfl (oq_loadDS (enc := Ins.enc) (sz := 3) (i := ((at_ recs r2).pc).toNat) (xs := r11) m0 (rd_rd e0) (at_get g12) rfl (by kernel_rfl) rfl) ?_
       refine tn 9 rfl (al [zi, zi, zi]) ?_
       rintro b51
       refine tz 10 rfl (sta 0 m0 m1 t0) ?_
       refine zz ?_
       exact aK b51 () trivial (lc e0 (lc e16 (lc (eU e3) (lc (eU e6) (lc (eU e7) (lc (eU e8) (lc (eU e9) (lc (eU e10) lN)))))))) (d2 (eP (p1 (p5 (p4 pn)))))
      refine un rfl (al [zi, zi, zi]) ?_
      rintro b52
      refine za 8 rfl (oq_loadDS (enc := Ins.enc) (sz := 3) (i := ((at_ recs r2).pc).toNat) (xs := r11) m1 (rd_rd e1) (at_get g12) rfl (by kernel_rfl) rfl) ?_
      refine tz 10 rfl (sta 0 m1 m0 t0) ?_
      refine zz ?_
      exact aK b52 () trivial (lc e1 (lc e16 (lc (eU e3) (lc (eU e6) (lc (eU e7) (lc (eU e8) (lc (eU e9) (lc (eU e10) lN)))))))) (d2 (eP (p1 (p5 (p4 pn)))))
     refine un rfl (al [zi, zi, zi]) ?_
     rintro b53
     refine za 7 rfl (oq_indexD (enc := Ins.enc) (sz' := 3) (sz := 3) (xs := r11) m1 m2 (rd_rd e1) g12 rfl (by kernel_rfl) rfl) ?_
     refine za 8 rfl (oq_loadDS (enc := Ins.enc) (sz := 3) (i := ((at_ recs r2).pc).toNat) (xs := r11) m0 (rd_rd e1) (at_get g12) rfl (by kernel_rfl) rfl) ?_
     refine tz 10 rfl (sta 0 m2 m0 t0) ?_
     refine zz ?_
     exact aK b53 () trivial (lc e2 (lc e16 (lc (eU e3) (lc (eU e6) (lc (eU e7) (lc (eU e8) (lc (eU e9) (lc (eU e10) lN)))))))) (d2 (eP (p1 (p5 (p4 pn)))))
    refine un rfl (al [zi, zi, zi]) ?_
    rintro b54
    refine pkA (p2 pn) (aE ro_dup (pkA (p3 pn) (aE (it_shut (enc := recC) (lst := RecV.kids) (x := (at_ recs r2)) (A := A8) (c := c8) (by simp [recC])) (pkA (p0 (p2 pn)) (aE (unfocus (xs := recs) (by have := g5; omega)) ?_)))))
    rw [set_at g5]
    refine tn 2 rfl (co (.cons m6 (.cons m5 .nil)) (eprogram_ok hr11 eb l pl (some ⟨rb6, ro6, none⟩) RC _ _) (p6 (p6 (p6 (p0 pn))))) ?_
    rintro ⟨A55, c55⟩
    refine za 7 rfl (oq_indexD (enc := Ins.enc) (sz' := 3) (sz := 3) (xs := r11) m0 m2 (rd_rd e0) g12 rfl (by kernel_rfl) rfl) ?_
    refine za 8 rfl (oq_loadDS (enc := Ins.enc) (sz := 3) (i := ((at_ recs r2).pc).toNat) (xs := r11) m0 (rd_rd e0) (at_get g12) rfl (by kernel_rfl) rfl) ?_
    refine tz 10 rfl (sta 0 m3 m0 t6) ?_
    refine zz ?_
    exact aK b54 () trivial (lc e3 (lc e16 (lc (eU e3) (lc (eU e6) (lc (eU e7) (lc (eU e8) (lc (eU e9) (lc (eU e10) lN)))))))) (d2 (eP (p0 (p4 (p3 (p3 pn))))))
   refine un rfl (al [zi, zi, zi]) ?_
   rintro b56
   refine x2 2 6 ?_ ?_
   ·refine uE (Ent.picks (p2 .nil)) (uE ro_dup (uE (Ent.picks (p3 (p0 .nil))) (uE (it_shut (enc := recC) (lst := RecV.kids) (x := (at_ recs r2)) (A := A8) (c := c8) (by simp [recC])) (uE (Ent.picks (p0 (p2 .nil))) (uE (unfocus (xs := recs) (by have := g5; omega)) ?_)))))
    rw [set_at g5]
    refine un rfl (co (.cons m5 (.cons m4 .nil)) (eprogram_ok hr11 eb l pl (some ⟨rb6, ro6, none⟩) RC _ _) (p6 (p6 (p6 (p0 pn))))) ?_
    rintro ⟨A57, c57⟩
    exact at_use (k35 b56 A57 c57) (lc e1 (lc e0 (lc e2 (lc e13 (lc (eU e0) (lc (eU e3) (lc (eU e4) (lc (eU e5) (lc (eU e6) (lc (eU e7) lN)))))))))) (eP (p6 pn))
   refine zs rfl (ld (ro6 + (r2).toNat * 7) 2 m1 e1 rfl) ?_
   refine pkA (p2 pn) (aE ro_dup (pkA (p3 pn) (aE (it_shut (enc := recC) (lst := RecV.kids) (x := (at_ recs r2)) (A := A8) (c := c8) (by simp [recC])) (pkA (p0 (p2 pn)) (aE (unfocus (xs := recs) (by have := g5; omega)) ?_)))))
   rw [set_at g5]
   refine tn 2 rfl (co (.cons m6 (.cons m5 .nil)) (eprogram_ok hr11 eb l pl (some ⟨rb6, ro6, none⟩) RC _ _) (p6 (p6 (p6 (p0 pn))))) ?_
   rintro ⟨A58, c58⟩
   refine za 7 rfl (oq_indexD (enc := Ins.enc) (sz' := 3) (sz := 3) (xs := r11) m0 m1 (rd_rd e0) g12 rfl (by kernel_rfl) rfl) ?_
   refine za 8 rfl (oq_loadDS (enc := Ins.enc) (sz := 3) (i := ((at_ recs r2).pc).toNat) (xs := r11) m0 (rd_rd e0) (at_get g12) rfl (by kernel_rfl) rfl) ?_
   refine tz 10 rfl (sta 0 m4 m0 t6) ?_
   refine zz ?_
   exact aK b56 () trivial (lc e4 (lc e16 (lc (eU e3) (lc (eU e6) (lc (eU e7) (lc (eU e8) (lc (eU e9) (lc (eU e10) lN)))))))) (d2 (eP (p0 (p4 (p3 (p3 pn))))))
  refine q2 (zp (mv m1) (zp (nc m0) (zp (fd 2 (ro6 + (r2).toNat * 7 + 2) m0) (rt_focus (r2).toNat pick0 (by omega) (fun rb59 ro59 hA60 => ?_)))))
  obtain ⟨rb59e, ro59e⟩ := addr_inj hA60
  subst rb59e ro59e
  rw [at_eq (by omega)]
  refine rt_open pick0 ?_
  rintro ⟨A61, c61⟩
  refine rt_fact (fun _ hw => (ro_sl hw.2.2 e1).2) (fun hc62 => ?_)
  refine zq (ld (ro6 + (r2).toNat * 7) 2 m0 e0 rfl) (zp (aI m0 .const) (zp (nc m4) (zp (fd 2 (ro6 + (r2).toNat * 7 + 2) m0) (rz (st1 (ro6 + (r2).toNat * 7) w2 m0 m2 t0) (q1 (cS (q2 (zp (mv m13) (zp (eqL m0 .const) (q1 (ci hs m0 (fun h63 hs => ?_) (fun h63 hs => ?_))))))))))))
  ·refine q2 (zp (mv m10) (rn (ot_buildSlice (T' := 3) (us := []) .nil (fun _ => by kernel_rfl)) ?_))
   rintro b64
   refine zp (mv m12) (zp (nc m0) (zp (fd 5 (ro6 + (r2).toNat * 7 + 5) m0) (zq (ld (ro6 + (r2).toNat * 7) 5 m0 e1 rfl) (rE (Ent.cons (rowS_of_pts (n := 0) (sz := 1) (vs := List.map (Value.int .i64) []) rfl (by unfold maxLen; omega)) Ent.refl) ?_))))
   obtain ⟨g66, hs⟩ := gO hs
   refine rn (ot_appendG (by_ := 8) (z := zi) (us := (at_ recs r2).kids.map (Value.int .i64)) m4 m0 (src_ro (enc := encInt) (fun _ => rfl) e2 rfl) pick0 Tryz.underlying23 (infoB_of (by kernel_rfl)) rfl (by decide) (by simp) all_ints (by unfold maxLen; omega) (by omega)) ?_
   rintro ⟨A65, c65⟩
   refine rE (ent_appx (ys := (at_ recs r2).kids) rfl) (rn (ot_buildSlice (T' := 3) (us := [vi ((-1))]) (.cons .const .nil) (fun _ => by kernel_rfl)) ?_)
   rintro b67
   obtain ⟨g69, hs⟩ := gO hs
   refine rn (ot_append (by_ := 8) (z := zi) m1 m0 (p1 (p0 .nil)) Tryz.underlying23 (infoB_of (by kernel_rfl)) rfl (by decide) rfl rfl (by decide) (by unfold maxLen; omega) (by omega)) ?_
   rintro ⟨A68, c68⟩
   refine rE (ent_appx (ys := [(-1)]) rfl) (zp (nc m8) (zp (fd 5 (ro6 + (r2).toNat * 7 + 5) m0) (rz (st1 (ro6 + (r2).toNat * 7) w5 m0 m2 t1) (q3 (zp (mv (mU m4)) (zp (mv (mU m6)) (zp (nc m0) (zp (fd 6 (fo + 6) m0) (zq (ld fo 6 m0 e8 rfl) (zp (mv (mU m7)) ?_))))))))))
   obtain ⟨r70, hr70, hs⟩ := bO_of hs
   refine ru (co (.cons m5 (.cons .const (.cons m1 (.cons m0 (.cons .const (.cons .const .nil)))))) (eemit_ok hr70 eb _ _) (p11 pn)) (q3 (zp (mv (mU m12)) (zp (nc m0) (zp (fd 1 (fo + 1) m0) (rz (st1 fo w1 m0 .const t9) (q3 (zp bz (rz (sta 0 (mU m14) m0 t11) (q4 (tR (bR (tR (pkE (p1 pn) (et_se (ro_of_ints (enc := encInt) (fun _ => rfl) (by simp <;> omega)) ?_))))))))))))))
   refine pkE (p2 pn) (sr ({ (at_ recs r2) with pc := (wi ((at_ recs r2).pc + 1)), kids := (([] ++ (at_ recs r2).kids) ++ [(-1)]) } : RecV) ?_)
   refine pkE (p0 (p2 pn)) (tE (unfocus_st (xs := recs) (by have := g5; omega)) (pkE (p6 pn) (tE (ent_rs (m' := (st_ recs r2 ({ (at_ recs r2) with pc := (wi ((at_ recs r2).pc + 1)), kids := (([] ++ (at_ recs r2).kids) ++ [(-1)]) } : RecV)).length) (by simp [st_])) (pkE (p8 pn) (tE ro_dup (pkE (p9 pn) (sf ({ f with line := 1 } : FrV) ?_)))))))
   obtain rfl := sI hs
   exact fa (eU e14) e9 (d4 (eP (p1 (p4 (p4 (p6 (p4 (p4 (p1 (p1 (p1 pn)))))))))))
  refine cK (tT (q2 (zp (mv m10) (rn (ot_buildSlice (T' := 3) (us := []) .nil (fun _ => by kernel_rfl)) ?_))))
  rintro b71
  refine zp (mv m12) (zp (nc m0) (zp (fd 5 (ro6 + (r2).toNat * 7 + 5) m0) (zq (ld (ro6 + (r2).toNat * 7) 5 m0 e1 rfl) (rE (Ent.cons (rowS_of_pts (n := 0) (sz := 1) (vs := List.map (Value.int .i64) []) rfl (by unfold maxLen; omega)) Ent.refl) ?_))))
  obtain ⟨g73, hs⟩ := gO hs
  refine rn (ot_appendG (by_ := 8) (z := zi) (us := (at_ recs r2).kids.map (Value.int .i64)) m4 m0 (src_ro (enc := encInt) (fun _ => rfl) e2 rfl) pick0 Tryz.underlying23 (infoB_of (by kernel_rfl)) rfl (by decide) (by simp) all_ints (by unfold maxLen; omega) (by omega)) ?_
  rintro ⟨A72, c72⟩
  refine rE (ent_appx (ys := (at_ recs r2).kids) rfl) (zp (mv (mU m3)) (rn (ot_buildSlice (T' := 3) (us := [vi value]) (.cons m0 .nil) (fun _ => by kernel_rfl)) ?_))
  rintro b74
  obtain ⟨g76, hs⟩ := gO hs
  refine rn (ot_append (by_ := 8) (z := zi) m2 m0 (p1 (p0 .nil)) Tryz.underlying23 (infoB_of (by kernel_rfl)) rfl (by decide) rfl rfl (by decide) (by unfold maxLen; omega) (by omega)) ?_
  rintro ⟨A75, c75⟩
  refine rE (ent_appx (ys := [value]) rfl) (zp (nc m9) (zp (fd 5 (ro6 + (r2).toNat * 7 + 5) m0) (rz (st1 (ro6 + (r2).toNat * 7) w5 m0 m2 t1) (q1 (cS ?_)))))
  obtain ⟨r77, hr77, hs⟩ := bF hs
  obtain ⟨g78, hs⟩ := gO hs
  refine ct_cutG (S := Unit) (G := Unit) (fun _ => True) (fun _ _ => [(11, vp b18 0), (8, vp b1 0), (1, vp fb fo), (3, vi value)]) (fun _ _ => pts eb 19 [.slice (some ⟨rb6, ro6, none⟩) ((st_ (st_ recs r2 ({ (at_ recs r2) with pc := (wi ((at_ recs r2).pc + 1)), kids := (([] ++ (at_ recs r2).kids) ++ [value]) } : RecV)) value r77).length) RC] :: recsS (some ⟨rb6, ro6, none⟩) RC (st_ (st_ recs r2 ({ (at_ recs r2) with pc := (wi ((at_ recs r2).pc + 1)), kids := (([] ++ (at_ recs r2).kids) ++ [value]) } : RecV)) value r77) :: pts b18 0 [vi ((at_ r11 ((at_ recs r2).pc)).op), vi ((at_ r11 ((at_ recs r2).pc)).a), vi ((at_ r11 ((at_ recs r2).pc)).b)] :: cP eb c l :: cfgL c l pl :: pts fb fo [vi f.kind, vi f.line, vi f.q.top, vi f.q.bottom, vi f.q.ring, vi f.q.cap, vi f.a, vi f.b, vi f.d, vi f.i, vi f.j, vi f.n, vi f.t, vu f.u, vu f.v, vu f.w, vu f.x, .slice A3 f.l.length c3] :: roS encInt 1 A3 c3 f.l :: pts b1 0 [.bool false, zi, zi] :: evsS eb 20 evs :: [F]) ?_ (fun _ _ _ => (?_ : CT _ _ _ _ _ _ _ _ _))
  ·refine ca 11 ?_
   refine at_key (X := fun A_ => ∀ (A79 : Option Addr) (c79 : Nat), A_ #[true, true, true, true, true, true, true, true, true, false, false] 2 [(86, .agg #[vi r77.prog, vi r77.parent, vi r77.pc, vi r77.left, vi r77.waiting, .slice A79 r77.kids.length c79, .bool (r77.started)]), (81, .slice (some ⟨rb6, ro6, none⟩) recs.length RC), (82, vi value), (11, vp b18 0), (8, vp b1 0), (1, vp fb fo), (3, vi value)] (roS encInt 1 A79 c79 r77.kids :: rowS A75 ((0 + (at_ recs r2).kids.length) + 1) c75 1 ((([] ++ (at_ recs r2).kids) ++ [value]).map (Value.int .i64)) :: pts rb6 (ro6 + (r2).toNat * 7) [vi ((at_ recs r2).prog), vi ((at_ recs r2).parent), vi ((wi ((at_ recs r2).pc + 1))), vi ((at_ recs r2).left), vi ((at_ recs r2).waiting), .slice A75 ((0 + (at_ recs r2).kids.length) + 1) c75, .bool ((at_ recs r2).started)] :: roS encInt 1 A61 c61 ((at_ recs r2).kids) :: holeI recC RecV.kids 7 rb6 ro6 RC recs ((r2).toNat) :: pts b18 0 [vi ((at_ r11 ((at_ recs r2).pc)).op), vi ((at_ r11 ((at_ recs r2).pc)).a), vi ((at_ r11 ((at_ recs r2).pc)).b)] :: cP eb c l :: cfgL c l pl :: pts eb 19 [.slice (some ⟨rb6, ro6, none⟩) recs.length RC] :: pts fb fo [vi f.kind, vi f.line, vi f.q.top, vi f.q.bottom, vi f.q.ring, vi f.q.cap, vi f.a, vi f.b, vi f.d, vi f.i, vi f.j, vi f.n, vi f.t, vu f.u, vu f.v, vu f.w, vu f.x, .slice A3 f.l.length c3] :: roS encInt 1 A3 c3 f.l :: pts b1 0 [.bool false, zi, zi] :: evsS eb 20 evs :: [F])) ?_ (fun k87 => ?_)
   ·intro A79 c79
    show AT _ _ _ _ _ _ _ _ _ _
    refine pkA (p1 pn) (at_se (ro_of_ints (enc := encInt) (fun _ => rfl) (by simp <;> omega)) ?_)
    refine pkA (p2 pn) (aE (it_shut (enc := recC) (lst := RecV.kids) (x := ({ (at_ recs r2) with pc := (wi ((at_ recs r2).pc + 1)), kids := (([] ++ (at_ recs r2).kids) ++ [value]) } : RecV)) (A := A75) (c := c75) (by simp [recC])) (pkA (p0 (p2 pn)) (aE (unfocus_st (xs := recs) (by have := g5; omega)) (pkA (p6 pn) (aE (ent_rs (m' := (st_ recs r2 ({ (at_ recs r2) with pc := (wi ((at_ recs r2).pc + 1)), kids := (([] ++ (at_ recs r2).kids) ++ [value]) } : RecV)).length) (by simp [st_])) (at_focus (value).toNat pick1 (by omega) (fun rb88 ro88 hA89 => ?_)))))))
    obtain ⟨rb88e, ro88e⟩ := addr_inj hA89
    subst rb88e ro88e
    rw [at_eq (by omega)]
    refine at_open pick0 ?_
    rintro ⟨A90, c90⟩
    refine at_fact (fun _ hw => (ro_sl hw.2.2 e1).2) (fun hc91 => ?_)
    have g92 : 0 ≤ value ∧ value < (recs.length : Int) := by simpa [st_] using g78
    refine za 9 rfl (op_index (i := (value).toNat) (o' := ro6 + (value).toNat * 7) m1 m2 (by omega) (by omega) (by kernel_rfl) rfl).q ?_
    refine tz 10 rfl (sta (ro6 + (value).toNat * 7) m0 m1 t0) ?_
    refine zz ?_
    exact pkE (p4 pn) (tE ro_dup (pkE (p2 pn) (tE (shut (N := itN recC RecV.kids rb6 (ro6 + (value).toNat * 7) r77) (A79, c79) rfl) (pkE (p0 (p2 pn)) (tE (unfocus_st (xs := (st_ recs r2 ({ (at_ recs r2) with pc := (wi ((at_ recs r2).pc + 1)), kids := (([] ++ (at_ recs r2).kids) ++ [value]) } : RecV))) (by have := g78; omega)) (pkE (p3 pn) (tE (ent_rs (m' := (st_ (st_ recs r2 ({ (at_ recs r2) with pc := (wi ((at_ recs r2).pc + 1)), kids := (([] ++ (at_ recs r2).kids) ++ [value]) } : RecV)) value r77).length) (by simp [st_])) (aK () () trivial (lc e4 (lc e5 (lc e6 (lc e7 lN)))) (d3 (eP (p2 (p2 (p2 pn)))))))))))))
   refine zt 0 rfl (mv (mU m5)) ?_
   refine zt 1 rfl (nc m0) ?_
   refine zt 2 rfl (fd 19 19 m0) ?_
   refine zt 4 rfl (mv (mU m11)) ?_
   refine zt 5 rfl (fd 1 1 (mU m5)) ?_
   refine zt 7 rfl (mv (mU m8)) ?_
   refine x2 3 6 ?_ ?_
   ·refine zs rfl (ld 19 0 m3 e7 rfl) ?_
    refine za 6 rfl (ld 0 1 m2 e4 rfl) ?_
    refine tn 8 rfl (co (.cons m0 (.cons m2 .nil)) (r8fresh_ok hr77  _ _) pn) ?_
    rintro ⟨A94, c94⟩
    exact at_use (k87 A94 c94) (lc e0 (lc e2 (lc e5 (lc (eU e10) (lc (eU e13) (lc (eU e15) (lc (eU e17) lN))))))) Ent.refl
   refine zs rfl (ld 0 1 m1 e4 rfl) ?_
   refine x2 3 8 ?_ ?_
   ·refine zs rfl (ld 19 0 m4 e7 rfl) ?_
    refine tn 8 rfl (co (.cons m1 (.cons m2 .nil)) (r8fresh_ok hr77  _ _) pn) ?_
    rintro ⟨A95, c95⟩
    exact at_use (k87 A95 c95) (lc e0 (lc e1 (lc e5 (lc (eU e10) (lc (eU e13) (lc (eU e15) (lc (eU e17) lN))))))) Ent.refl
   refine un rfl (co (.cons m0 (.cons m1 .nil)) (r8fresh_ok hr77  _ _) pn) ?_
   rintro ⟨A96, c96⟩
   refine za 3 rfl (ld 19 0 m5 e8 rfl) ?_
   exact at_use (k87 A96 c96) (lc e1 (lc e0 (lc e5 (lc (eU e10) (lc (eU e13) (lc (eU e15) (lc (eU e17) lN))))))) Ent.refl
  refine ct_cutY (S := Unit) (G := Unit) (fun _ => True) (fun _ _ => [(8, vp b1 0)]) (fun _ _ => pts eb 19 [.slice (some ⟨rb6, ro6, none⟩) ((st_ (st_ recs r2 ({ (at_ recs r2) with pc := (wi ((at_ recs r2).pc + 1)), kids := (([] ++ (at_ recs r2).kids) ++ [value]) } : RecV)) value r77).length) RC] :: recsS (some ⟨rb6, ro6, none⟩) RC (st_ (st_ recs r2 ({ (at_ recs r2) with pc := (wi ((at_ recs r2).pc + 1)), kids := (([] ++ (at_ recs r2).kids) ++ [value]) } : RecV)) value r77) :: pts b18 0 [vi ((at_ r11 ((at_ recs r2).pc)).op), vi ((at_ r11 ((at_ recs r2).pc)).a), vi ((at_ r11 ((at_ recs r2).pc)).b)] :: cP eb c l :: cfgL c l pl :: pts fb fo [vi f.kind, vi 6, vi f.q.top, vi f.q.bottom, vi f.q.ring, vi f.q.cap, vi f.a, vi f.b, vi ((at_ r11 ((at_ recs r2).pc)).b), vi f.i, vi f.j, vi value, vi f.t, vu f.u, vu f.v, vu f.w, vu f.x, .slice A3 f.l.length c3] :: roS encInt 1 A3 c3 f.l :: pts b1 0 [.bool false, zi, zi] :: evsS eb 20 evs :: [F]) ?_ (fun _ _ _ => (?_ : ET _ _ _ _ .normal _ _))
  ·refine ca 15 ?_
   refine zt 0 rfl (mv m2) ?_
   refine zt 1 rfl (mv m3) ?_
   refine zt 2 rfl (mv m4) ?_
   refine zt 3 rfl (mv m6) ?_
   refine zt 4 rfl (fd 2 2 m4) ?_
   refine zt 6 rfl (nc m4) ?_
   refine zt 7 rfl (fd 11 (fo + 11) m0) ?_
   refine x2 5 8 ?_ ?_
   ·refine zs rfl (ld 0 2 m2 e2 rfl) ?_
    refine tz 8 rfl (st1 fo w11 m1 m4 t5) ?_
    refine zt 9 rfl (nc m6) ?_
    refine zt 10 rfl (fd 8 (fo + 8) m0) ?_
    refine tz 11 rfl (st1 fo w8 m0 m2 t5) ?_
    refine zt 12 rfl (nc m7) ?_
    refine zt 13 rfl (fd 1 (fo + 1) m0) ?_
    refine tz 14 rfl (st1 fo w1 m0 .const t5) ?_
    refine zz ?_
    exact aK () () trivial (lc e13 lN) Ent.refl
   refine uz rfl (st1 fo w11 m0 m3 t5) ?_
   refine za 5 rfl (ld 0 2 m2 e2 rfl) ?_
   refine zt 9 rfl (nc m6) ?_
   refine zt 10 rfl (fd 8 (fo + 8) m0) ?_
   refine tz 11 rfl (st1 fo w8 m0 m2 t5) ?_
   refine zt 12 rfl (nc m7) ?_
   refine zt 13 rfl (fd 1 (fo + 1) m0) ?_
   refine tz 14 rfl (st1 fo w1 m0 .const t5) ?_
   refine zz ?_
   exact aK () () trivial (lc e13 lN) Ent.refl
  refine tB (tT (q2 (zp bz (rz (sta 0 m1 m0 t7) (q4 (pkE (p6 pn) (tE ro_dup (pkE (p7 pn) (sf ({ f with line := 6, d := (at_ r11 ((at_ recs r2).pc)).b, n := value } : FrV) ?_)))))))))
  obtain rfl := sI hs
  exact fa e1 e7 (d3 (eP (p1 (p3 (p5 (p3 (p3 (p1 (p1 (p1 pn))))))))))
 refine q2 (zp (eqL m2 .const) (zp (asg m0) (q1 (ci hs m0 (fun h99 hs => ?_) (fun h99 hs => ?_)))))
 ·refine cS (ca 15 ?_)
  refine zt 0 rfl (mv m19) ?_
  refine zt 1 rfl (mv (mU m1)) ?_
  refine zt 2 rfl (nc m0) ?_
  refine zt 3 rfl (fd 6 (fo + 6) m0) ?_
  refine zt 5 rfl (mv (mU m4)) ?_
  refine zt 6 rfl (nc m0) ?_
  refine zt 7 rfl (fd 11 (fo + 11) m0) ?_
  refine zt 9 rfl (mv (mU m2)) ?_
  refine zt 10 rfl (mv (mU m8)) ?_
  refine zt 11 rfl (nc m0) ?_
  refine zt 12 rfl (fd 8 (fo + 8) m0) ?_
  refine at_group [4, 8, 13] 1 rfl (by kernel_rfl) rfl ?_
  refine yq (ld fo 6 m7 e3 rfl) (yq (ld fo 11 m5 e3 rfl) (yq (ld fo 8 m2 e3 rfl) (qN ?_)))
  obtain ⟨r100, hr100, hs⟩ := bO_of hs
  refine tu 14 rfl (co (.cons m13 (.cons .const (.cons m2 (.cons m1 (.cons m6 (.cons m0 .nil)))))) (eemit_ok hr100 eb _ _) (p9 pn)) ?_
  refine zz ?_
  refine tT (cR (zp (mv (mU m15)) (zp (nc m0) (zp (fd 1 (fo + 1) m0) (rz (st1 fo w1 m0 .const t4) (rN (tB (tT (q2 (zp bz (rz (sta 0 (mU m17) m0 t6) (q4 (pkE (p2 pn) (tE ro_dup (pkE (p3 pn) (sr (at_ recs r2) ?_))))))))))))))))
  refine pkE (p0 (p2 pn)) (tE (unfocus (xs := recs) (by have := g5; omega)) ?_)
  rw [set_at g5]
  refine pkE (p4 pn) (tE ro_dup (pkE (p5 pn) (sf ({ f with line := 7 } : FrV) ?_)))
  obtain rfl := sI hs
  exact fa (eU e17) e5 (d3 (eP (p1 (p2 (p3 (p3 (p3 (p3 (p1 (p1 pn))))))))))
 refine q2 (zp (eqL m4 .const) (zp (asg m0) (q1 (ci hs m0 (fun h101 hs => ?_) (fun h101 hs => ?_)))))
 ·refine q2 (zp (mv (mU m2)) (zp (nc m0) (zp (fd 1 (fo + 1) m0) (rz (st1 fo w1 m0 .const t3) (q3 (zp (mv (mU m6)) (zp (eqL m0 .const) (q1 (ci hs m0 (fun h102 hs => ?_) (fun h102 hs => ?_))))))))))
  ·refine cR (zp (mv (mU m7)) (zp (nc m0) (zp (fd 1 (fo + 1) m0) (rz (st1 fo w1 m0 .const t3) (rN (tB (tT (q2 (zp bz (rz (sta 0 (mU m9) m0 t5) (q4 (pkE (p1 pn) (tE ro_dup (pkE (p2 pn) (sr (at_ recs r2) ?_)))))))))))))))
   refine pkE (p0 (p1 pn)) (tE (unfocus (xs := recs) (by have := g5; omega)) ?_)
   rw [set_at g5]
   refine pkE (p3 pn) (tE ro_dup (pkE (p4 pn) (sf ({ f with line := 9 } : FrV) ?_)))
   obtain rfl := sI hs
   exact fa (eU e9) e4 (d3 (eP (p1 (p2 (p2 (p2 (p2 (p2 (p1 (p1 pn))))))))))
  refine cK (tB (tT (q2 (zp bz (rz (sta 0 (mU m6) m0 t5) (q4 (pkE (p1 pn) (tE ro_dup (pkE (p2 pn) (sr (at_ recs r2) ?_))))))))))
  refine pkE (p0 (p1 pn)) (tE (unfocus (xs := recs) (by have := g5; omega)) ?_)
  rw [set_at g5]
  refine pkE (p3 pn) (tE ro_dup (pkE (p4 pn) (sf ({ f with line := 8 } : FrV) ?_)))
  obtain rfl := sI hs
  exact fa (eU e6) e4 (d3 (eP (p1 (p2 (p2 (p2 (p2 (p2 (p1 (p1 pn))))))))))
 refine q2 (zp (eqL m6 .const) (zp (asg m0) (q1 (ci hs m0 (fun h103 hs => ?_) (fun h103 hs => ?_)))))
 ·refine cR (zp (mv (mU m4)) (zp (nc m0) (zp (fd 1 (fo + 1) m0) (rz (st1 fo w1 m0 .const t3) (rN (tB (tT (q2 (zp bz (rz (sta 0 (mU m6) m0 t5) (q4 (pkE (p1 pn) (tE ro_dup (pkE (p2 pn) (sr (at_ recs r2) ?_)))))))))))))))
  refine pkE (p0 (p1 pn)) (tE (unfocus (xs := recs) (by have := g5; omega)) ?_)
  rw [set_at g5]
  refine pkE (p3 pn) (tE ro_dup (pkE (p4 pn) (sf ({ f with line := 1 } : FrV) ?_)))
  obtain rfl := sI hs
  exact fa (eU e6) e4 (d3 (eP (p1 (p2 (p2 (p2 (p2 (p2 (p1 (p1 pn))))))))))
 refine q2 (zp (eqL m8 .const) (zp (asg m0) (q1 (ci hs m0 (fun h104 hs => ?_) (fun h104 hs => ?_)))))
 ·refine q2 (zp (mv (mU m6)) (zp (nc m0) (zp (fd 1 (fo + 1) m0) (rz (st1 fo w1 m0 .const t3) (q3 (zp (mv (mU m10)) (zp (eqL m0 .const) (q1 (ci hs m0 (fun h105 hs => ?_) (fun h105 hs => ?_))))))))))
  ·obtain ⟨g106, hs⟩ := gO hs
   obtain ⟨g107, hs⟩ := gO hs
   refine ct_cutY (S := Option Addr) (G := Nat) (fun _ => True) (fun A111 c111 => [(8, vp b1 0)]) (fun A111 c111 => recsS (some ⟨rb6, ro6, none⟩) RC recs :: rowS A111 ((0 + f.l.length) + 1) c111 1 ((([] ++ f.l) ++ [f.n]).map (Value.int .i64)) :: pts fb fo [vi f.kind, vi 1, vi f.q.top, vi f.q.bottom, vi f.q.ring, vi f.q.cap, vi f.a, vi f.b, vi f.d, vi f.i, vi f.j, vi f.n, vi f.t, vu f.u, vu f.v, vu f.w, vu f.x, .slice A111 ((0 + f.l.length) + 1) c111] :: pts b1 0 [.bool false, zi, zi] :: cP eb c l :: cfgL c l pl :: pts eb 19 [.slice (some ⟨rb6, ro6, none⟩) recs.length RC] :: evsS eb 20 evs :: [F]) ?_ (fun A111 c111 _ => (?_ : ET _ _ _ _ .normal _ _))
   ·refine ca 16 ?_
    refine at_key (X := fun A_ => ∀ (A109 : Option Addr) (c109 : Nat), A_ #[true, true, true, true, true, true, true, true, true, true, true, false, false, false, false, false] 5 [(152, vi f.n), (148, .slice A109 (0 + f.l.length) c109), (142, vp fb fo), (8, vp b1 0)] (rowS A109 (0 + f.l.length) c109 1 (([] ++ f.l).map (Value.int .i64)) :: pts rb6 (ro6 + (r2).toNat * 7) [vi ((at_ recs r2).prog), vi ((at_ recs r2).parent), vi ((at_ recs r2).pc), vi ((at_ recs r2).left), vi ((at_ recs r2).waiting), .slice A8 ((at_ recs r2).kids.length) c8, .bool ((at_ recs r2).started)] :: roS encInt 1 A8 c8 ((at_ recs r2).kids) :: holeI recC RecV.kids 7 rb6 ro6 RC recs ((r2).toNat) :: pts fb fo [vi f.kind, vi 1, vi f.q.top, vi f.q.bottom, vi f.q.ring, vi f.q.cap, vi f.a, vi f.b, vi f.d, vi f.i, vi f.j, vi f.n, vi f.t, vu f.u, vu f.v, vu f.w, vu f.x, .slice A3 f.l.length c3] :: roS encInt 1 A3 c3 f.l :: pts b1 0 [.bool false, zi, zi] :: cP eb c l :: cfgL c l pl :: pts eb 19 [.slice (some ⟨rb6, ro6, none⟩) recs.length RC] :: evsS eb 20 evs :: [F])) ?_ (fun k125 => ?_)
    ·intro A109 c109
     show AT _ _ _ _ _ _ _ _ _ _
     refine tn 11 rfl (ot_buildSlice (T' := 3) (us := [vi f.n]) (.cons m0 .nil) (fun _ => by kernel_rfl)) ?_
     rintro b126
     refine tn 12 rfl (ot_append (by_ := 8) (z := zi) m2 m0 (p1 (p0 .nil)) Tryz.underlying23 (infoB_of (by kernel_rfl)) rfl (by decide) rfl rfl (by decide) (by unfold maxLen; omega) (by omega)) ?_
     rintro ⟨A127, c127⟩
     refine aE (ent_appx (ys := [f.n]) rfl) (zt 13 rfl (nc m4) ?_)
     refine zt 14 rfl (fd 17 (fo + 17) m0) ?_
     refine tz 15 rfl (st1 fo w17 m0 m2 t4) ?_
     refine zz ?_
     refine pkE (p2 pn) (tE ro_dup (pkE (p3 pn) (sr (at_ recs r2) ?_)))
     refine pkE (p0 (p2 pn)) (tE (unfocus (xs := recs) (by have := g5; omega)) ?_)
     rw [set_at g5]
     exact aK A127 c127 trivial (lc e7 lN) (d2 (eP (p1 (p3 pn))))
    refine at_key (X := fun A_ => ∀ (b113 : Nat) (b108 : Nat), A_ #[true, true, true, true, true, true, false, true, true, true, true, true, false, false, false, false] 5 [(153, .slice (some ⟨b113, 0, none⟩) 1 1), (147, .slice A3 f.l.length c3), (143, .slice (some ⟨b108, 0, none⟩) 0 0), (142, vp fb fo), (8, vp b1 0)] (pts b113 0 [vi f.n] :: pts b108 0 [] :: pts rb6 (ro6 + (r2).toNat * 7) [vi ((at_ recs r2).prog), vi ((at_ recs r2).parent), vi ((at_ recs r2).pc), vi ((at_ recs r2).left), vi ((at_ recs r2).waiting), .slice A8 ((at_ recs r2).kids.length) c8, .bool ((at_ recs r2).started)] :: roS encInt 1 A8 c8 ((at_ recs r2).kids) :: holeI recC RecV.kids 7 rb6 ro6 RC recs ((r2).toNat) :: pts fb fo [vi f.kind, vi 1, vi f.q.top, vi f.q.bottom, vi f.q.ring, vi f.q.cap, vi f.a, vi f.b, vi f.d, vi f.i, vi f.j, vi f.n, vi f.t, vu f.u, vu f.v, vu f.w, vu f.x, .slice A3 f.l.length c3] :: roS encInt 1 A3 c3 f.l :: pts b1 0 [.bool false, zi, zi] :: cP eb c l :: cfgL c l pl :: pts eb 19 [.slice (some ⟨rb6, ro6, none⟩) recs.length RC] :: evsS eb 20 evs :: [F])) ?_ (fun k128 => ?_)
    ·intro b113 b108
     show AT _ _ _ _ _ _ _ _ _ _
     refine pkA (p1 pn) (aE (Ent.cons (rowS_of_pts (n := 0) (sz := 1) (vs := List.map (Value.int .i64) []) rfl (by unfold maxLen; omega)) Ent.refl) (tn 6 rfl (ot_appendG (by_ := 8) (z := zi) (us := f.l.map (Value.int .i64)) m2 m1 (src_ro (enc := encInt) (fun _ => rfl) e6 rfl) pick0 Tryz.underlying23 (infoB_of (by kernel_rfl)) rfl (by decide) (by simp) all_ints (by unfold maxLen; omega) (by omega)) ?_))
     rintro ⟨A129, c129⟩
     refine aE (ent_appx (ys := f.l) rfl) (tn 12 rfl (ot_append (by_ := 8) (z := zi) m0 m1 (p0 (p0 .nil)) Tryz.underlying23 (infoB_of (by kernel_rfl)) rfl (by decide) rfl rfl (by decide) (by unfold maxLen; omega) (by omega)) ?_)
     rintro ⟨A130, c130⟩
     refine aE (ent_appx (ys := [f.n]) rfl) (zt 13 rfl (nc m5) ?_)
     refine zt 14 rfl (fd 17 (fo + 17) m0) ?_
     refine tz 15 rfl (st1 fo w17 m0 m2 t4) ?_
     refine zz ?_
     refine pkE (p2 pn) (tE ro_dup (pkE (p3 pn) (sr (at_ recs r2) ?_)))
     refine pkE (p0 (p2 pn)) (tE (unfocus (xs := recs) (by have := g5; omega)) ?_)
     rw [set_at g5]
     exact aK A130 c130 trivial (lc e8 lN) (d2 (eP (p1 (p3 pn))))
    refine at_key (X := fun A_ => ∀ (b108 : Nat), A_ #[true, true, true, true, true, true, false, true, true, true, true, false, false, false, false, false] 6 [(152, vi f.n), (147, .slice A3 f.l.length c3), (143, .slice (some ⟨b108, 0, none⟩) 0 0), (142, vp fb fo), (8, vp b1 0)] (pts b108 0 [] :: pts rb6 (ro6 + (r2).toNat * 7) [vi ((at_ recs r2).prog), vi ((at_ recs r2).parent), vi ((at_ recs r2).pc), vi ((at_ recs r2).left), vi ((at_ recs r2).waiting), .slice A8 ((at_ recs r2).kids.length) c8, .bool ((at_ recs r2).started)] :: roS encInt 1 A8 c8 ((at_ recs r2).kids) :: holeI recC RecV.kids 7 rb6 ro6 RC recs ((r2).toNat) :: pts fb fo [vi f.kind, vi 1, vi f.q.top, vi f.q.bottom, vi f.q.ring, vi f.q.cap, vi f.a, vi f.b, vi f.d, vi f.i, vi f.j, vi f.n, vi f.t, vu f.u, vu f.v, vu f.w, vu f.x, .slice A3 f.l.length c3] :: roS encInt 1 A3 c3 f.l :: pts b1 0 [.bool false, zi, zi] :: cP eb c l :: cfgL c l pl :: pts eb 19 [.slice (some ⟨rb6, ro6, none⟩) recs.length RC] :: evsS eb 20 evs :: [F])) ?_ (fun k131 => ?_)
    ·intro b108
     show AT _ _ _ _ _ _ _ _ _ _
     refine x2 6 11 ?_ ?_
     ·refine uE (Ent.cons (rowS_of_pts (n := 0) (sz := 1) (vs := List.map (Value.int .i64) []) rfl (by unfold maxLen; omega)) Ent.refl) (un rfl (ot_appendG (by_ := 8) (z := zi) (us := f.l.map (Value.int .i64)) m2 m1 (src_ro (enc := encInt) (fun _ => rfl) e5 rfl) pick0 Tryz.underlying23 (infoB_of (by kernel_rfl)) rfl (by decide) (by simp) all_ints (by unfold maxLen; omega) (by omega)) ?_)
      rintro ⟨A132, c132⟩
      exact aE (ent_appx (ys := f.l) rfl) (at_use (k125 A132 c132) (lc e1 (lc e0 (lc e4 (lc e5 lN)))) Ent.refl)
     refine un rfl (ot_buildSlice (T' := 3) (us := [vi f.n]) (.cons m0 .nil) (fun _ => by kernel_rfl)) ?_
     rintro b133
     exact at_use (k128 b133 b108) (lc e0 (lc e2 (lc e3 (lc e4 (lc e5 lN))))) Ent.refl
    refine zt 0 rfl (mv (mU m11)) ?_
    refine zt 2 rfl (mv (mU m12)) ?_
    refine zt 3 rfl (nc m0) ?_
    refine zt 4 rfl (fd 17 (fo + 17) m0) ?_
    refine zt 7 rfl (mv (mU m15)) ?_
    refine zt 8 rfl (nc m0) ?_
    refine zt 9 rfl (fd 11 (fo + 11) m0) ?_
    refine x3 1 5 10 ?_ ?_ ?_
    ·refine un rfl (ot_buildSlice (T' := 3) (us := []) .nil (fun _ => by kernel_rfl)) ?_
     rintro b139
     refine x2 5 10 ?_ ?_
     ·refine zs rfl (ld fo 17 m4 e4 rfl) ?_
      refine x2 6 10 ?_ ?_
      ·refine uE (Ent.cons (rowS_of_pts (n := 0) (sz := 1) (vs := List.map (Value.int .i64) []) rfl (by unfold maxLen; omega)) Ent.refl) (un rfl (ot_appendG (by_ := 8) (z := zi) (us := f.l.map (Value.int .i64)) m1 m0 (src_ro (enc := encInt) (fun _ => rfl) e5 rfl) pick0 Tryz.underlying23 (infoB_of (by kernel_rfl)) rfl (by decide) (by simp) all_ints (by unfold maxLen; omega) (by omega)) ?_)
       rintro ⟨A140, c140⟩
       refine aE (ent_appx (ys := f.l) rfl) (za 10 rfl (ld fo 11 m3 e4 rfl) ?_)
       exact at_use (k125 A140 c140) (lc e0 (lc e1 (lc e10 (lc (eU (eU e0)) lN)))) Ent.refl
      refine zs rfl (ld fo 11 m2 e4 rfl) ?_
      exact at_use (k131 b139) (lc e0 (lc e1 (lc e2 (lc e9 (lc (eU e19) lN))))) Ent.refl
     refine zs rfl (ld fo 11 m1 e4 rfl) ?_
     refine x2 5 11 ?_ ?_
     ·refine zs rfl (ld fo 17 m5 e4 rfl) ?_
      exact at_use (k131 b139) (lc e1 (lc e0 (lc e2 (lc e9 (lc (eU e19) lN))))) Ent.refl
     refine un rfl (ot_buildSlice (T' := 3) (us := [vi f.n]) (.cons m0 .nil) (fun _ => by kernel_rfl)) ?_
     rintro b141
     refine za 5 rfl (ld fo 17 m6 e5 rfl) ?_
     exact at_use (k128 b141 b139) (lc e1 (lc e0 (lc e3 (lc e10 (lc (eU (eU e0)) lN))))) Ent.refl
    ·refine zs rfl (ld fo 17 m3 e3 rfl) ?_
     refine x2 1 10 ?_ ?_
     ·refine un rfl (ot_buildSlice (T' := 3) (us := []) .nil (fun _ => by kernel_rfl)) ?_
      rintro b142
      refine x2 6 10 ?_ ?_
      ·refine uE (Ent.cons (rowS_of_pts (n := 0) (sz := 1) (vs := List.map (Value.int .i64) []) rfl (by unfold maxLen; omega)) Ent.refl) (un rfl (ot_appendG (by_ := 8) (z := zi) (us := f.l.map (Value.int .i64)) m0 m1 (src_ro (enc := encInt) (fun _ => rfl) e5 rfl) pick0 Tryz.underlying23 (infoB_of (by kernel_rfl)) rfl (by decide) (by simp) all_ints (by unfold maxLen; omega) (by omega)) ?_)
       rintro ⟨A143, c143⟩
       refine aE (ent_appx (ys := f.l) rfl) (za 10 rfl (ld fo 11 m3 e4 rfl) ?_)
       exact at_use (k125 A143 c143) (lc e0 (lc e1 (lc e10 (lc (eU (eU e0)) lN)))) Ent.refl
      refine zs rfl (ld fo 11 m2 e4 rfl) ?_
      exact at_use (k131 b142) (lc e0 (lc e2 (lc e1 (lc e9 (lc (eU e19) lN))))) Ent.refl
     refine zs rfl (ld fo 11 m1 e3 rfl) ?_
     refine x2 1 11 ?_ ?_
     ·refine un rfl (ot_buildSlice (T' := 3) (us := []) .nil (fun _ => by kernel_rfl)) ?_
      rintro b144
      exact at_use (k131 b144) (lc e1 (lc e2 (lc e0 (lc e9 (lc (eU e19) lN))))) Ent.refl
     refine un rfl (ot_buildSlice (T' := 3) (us := [vi f.n]) (.cons m0 .nil) (fun _ => by kernel_rfl)) ?_
     rintro b145
     refine tn 1 rfl (ot_buildSlice (T' := 3) (us := []) .nil (fun _ => by kernel_rfl)) ?_
     rintro b146
     exact at_use (k128 b145 b146) (lc e1 (lc e3 (lc e0 (lc e10 (lc (eU (eU e0)) lN))))) (eP (p1 pn))
    refine zs rfl (ld fo 11 m0 e3 rfl) ?_
    refine x3 1 5 11 ?_ ?_ ?_
    ·refine un rfl (ot_buildSlice (T' := 3) (us := []) .nil (fun _ => by kernel_rfl)) ?_
     rintro b147
     refine x2 5 11 ?_ ?_
     ·refine zs rfl (ld fo 17 m5 e4 rfl) ?_
      exact at_use (k131 b147) (lc e2 (lc e0 (lc e1 (lc e9 (lc (eU e19) lN))))) Ent.refl
     refine un rfl (ot_buildSlice (T' := 3) (us := [vi f.n]) (.cons m1 .nil) (fun _ => by kernel_rfl)) ?_
     rintro b148
     refine za 5 rfl (ld fo 17 m6 e5 rfl) ?_
     exact at_use (k128 b148 b147) (lc e1 (lc e0 (lc e2 (lc e10 (lc (eU (eU e0)) lN))))) Ent.refl
    ·refine zs rfl (ld fo 17 m4 e3 rfl) ?_
     refine x2 1 11 ?_ ?_
     ·refine un rfl (ot_buildSlice (T' := 3) (us := []) .nil (fun _ => by kernel_rfl)) ?_
      rintro b149
      exact at_use (k131 b149) (lc e2 (lc e1 (lc e0 (lc e9 (lc (eU e19) lN))))) Ent.refl
     refine un rfl (ot_buildSlice (T' := 3) (us := [vi f.n]) (.cons m1 .nil) (fun _ => by kernel_rfl)) ?_
     rintro b150
     refine tn 1 rfl (ot_buildSlice (T' := 3) (us := []) .nil (fun _ => by kernel_rfl)) ?_
     rintro b151
     exact at_use (k128 b150 b151) (lc e1 (lc e2 (lc e0 (lc e10 (lc (eU (eU e0)) lN))))) (eP (p1 pn))
    refine un rfl (ot_buildSlice (T' := 3) (us := [vi f.n]) (.cons m0 .nil) (fun _ => by kernel_rfl)) ?_
    rintro b152
    refine x2 1 5 ?_ ?_
    ·refine un rfl (ot_buildSlice (T' := 3) (us := []) .nil (fun _ => by kernel_rfl)) ?_
     rintro b153
     refine za 5 rfl (ld fo 17 m6 e5 rfl) ?_
     exact at_use (k128 b152 b153) (lc e2 (lc e0 (lc e1 (lc e10 (lc (eU (eU e0)) lN))))) (eP (p1 pn))
    refine zs rfl (ld fo 17 m5 e4 rfl) ?_
    refine tn 1 rfl (ot_buildSlice (T' := 3) (us := []) .nil (fun _ => by kernel_rfl)) ?_
    rintro b154
    exact at_use (k128 b152 b154) (lc e2 (lc e1 (lc e0 (lc e10 (lc (eU (eU e0)) lN))))) (eP (p1 pn))
   refine tB (tT (q2 (zp bz (rz (sta 0 m1 m0 t3) (q4 (pkE (p1 pn) (et_se (ro_of_ints (enc := encInt) (fun _ => rfl) (by simp <;> omega)) ?_)))))))
   refine pkE (p2 pn) (tE (it_shut (enc := frC) (lst := FrV.l) (x := ({ f with line := 1, l := (([] ++ f.l) ++ [f.n]) } : FrV)) (A := A111) (c := c111) (by simp [frC])) ?_)
   obtain rfl := sI hs
   exact fa e1 e2 (d1 (eP (p2 (p2 (p2 (p2 (p1 (p1 pn))))))))
  refine cK (tB (tT (q2 (zp bz (rz (sta 0 (mU m10) m0 t5) (q4 (pkE (p1 pn) (tE ro_dup (pkE (p2 pn) (sr (at_ recs r2) ?_))))))))))
  refine pkE (p0 (p1 pn)) (tE (unfocus (xs := recs) (by have := g5; omega)) ?_)
  rw [set_at g5]
  refine pkE (p3 pn) (tE ro_dup (pkE (p4 pn) (sf ({ f with line := 1 } : FrV) ?_)))
  obtain rfl := sI hs
  exact fa (eU e10) e4 (d3 (eP (p1 (p2 (p2 (p2 (p2 (p2 (p1 (p1 pn))))))))))
 refine q2 (zp (eqL m10 .const) (zp (asg m0) (q1 (ci hs m0 (fun h155 hs => ?_) (fun h155 hs => ?_)))))
 ·refine cS (ca 11 ?_)
  refine zt 0 rfl (mv (mU m7)) ?_
  refine zt 1 rfl (mv (mU m9)) ?_
  refine zt 2 rfl (nc m0) ?_
  refine zt 3 rfl (fd 6 (fo + 6) m0) ?_
  refine zt 5 rfl (mv (mU m7)) ?_
  refine zt 6 rfl (mv (mU m13)) ?_
  refine zt 7 rfl (nc m0) ?_
  refine zt 8 rfl (fd 12 (fo + 12) m0) ?_
  refine at_group [4, 9] 1 rfl (by kernel_rfl) rfl ?_
  refine yq (ld fo 6 m4 e3 rfl) (yq (ld fo 12 m1 e3 rfl) (qN ?_))
  obtain ⟨r156, hr156, hs⟩ := bO_of hs
  refine tu 10 rfl (co (.cons m9 (.cons .const (.cons m1 (.cons m5 (.cons .const (.cons m0 .nil)))))) (eemit_ok hr156 eb _ _) (p9 pn)) ?_
  refine zz ?_
  refine tT (q2 (zp (mv (mU m19)) (pkR (p5 pn) (rE ro_dup (pkR (p6 pn) (rE (shut (N := itN frC FrV.l fb fo f) (A3, c3) rfl) ?_))))))
  obtain ⟨r157, hr157, hs⟩ := bO_of hs
  refine ru (co (.cons m0 .nil) (r8leave_ok hr157 fb fo _ _) (p0 pn)) (rz (sta 0 (mU m19) m0 t6) (q4 (bR (tR (pkE (p4 pn) (tE ro_dup (pkE (p5 pn) (sr (at_ recs r2) ?_))))))))
  refine pkE (p0 (p4 pn)) (tE (unfocus (xs := recs) (by have := g5; omega)) ?_)
  rw [set_at g5]
  obtain rfl := sI hs
  exact fa (eU e19) e5 (d3 (eP (p1 (p2 (p3 (p3 (p3 (p3 (p0 (p1 pn))))))))))
 refine q2 (zp (eqL m12 .const) (zp (asg m0) (q1 (ci hs m0 (fun h158 hs => ?_) (fun h158 hs => ?_)))))
 ·refine q2 (zp (mv (mU m10)) (zp (mv (mU m11)) (zp (mv (mU m14)) (zp (nc m2) (zp (fd 12 (fo + 12) m0) (rz (st1 fo w12 m0 m2 t3) (zp (nc m3) (zp (fd 1 (fo + 1) m0) (rz (st1 fo w1 m0 .const t3) (q3 (zp (mv (mU m18)) (zp (eqL m0 .const) (q1 (ci hs m0 (fun h159 hs => ?_) (fun h159 hs => ?_)))))))))))))))
  ·refine cR (zp (mv (mU m19)) (zp (nc m0) (zp (fd 1 (fo + 1) m0) (rz (st1 fo w1 m0 .const t3) (rN (tB (tT (q2 (zp bz (rz (sta 0 (mU (mU m1)) m0 t5) (q4 (pkE (p1 pn) (tE ro_dup (pkE (p2 pn) (sr (at_ recs r2) ?_)))))))))))))))
   refine pkE (p0 (p1 pn)) (tE (unfocus (xs := recs) (by have := g5; omega)) ?_)
   rw [set_at g5]
   refine pkE (p3 pn) (tE ro_dup (pkE (p4 pn) (sf ({ f with line := 22, t := value } : FrV) ?_)))
   obtain rfl := sI hs
   exact fa (eU (eU e1)) e4 (d3 (eP (p1 (p2 (p2 (p2 (p2 (p2 (p1 (p1 pn))))))))))
  refine cK (tB (tT (q2 (zp bz (rz (sta 0 (mU m18) m0 t5) (q4 (pkE (p1 pn) (tE ro_dup (pkE (p2 pn) (sr (at_ recs r2) ?_))))))))))
  refine pkE (p0 (p1 pn)) (tE (unfocus (xs := recs) (by have := g5; omega)) ?_)
  rw [set_at g5]
  refine pkE (p3 pn) (tE ro_dup (pkE (p4 pn) (sf ({ f with line := 21, t := value } : FrV) ?_)))
  obtain rfl := sI hs
  exact fa (eU e18) e4 (d3 (eP (p1 (p2 (p2 (p2 (p2 (p2 (p1 (p1 pn))))))))))
 refine q2 (zp (eqL m14 .const) (zp (asg m0) (q1 (ci hs m0 (fun h160 hs => ?_) (fun h160 hs => ?_)))))
 ·refine q2 (zp (mv (mU m12)) (pkR (p4 pn) (rE ro_dup (pkR (p5 pn) (rE (shut (N := itN frC FrV.l fb fo f) (A3, c3) rfl) ?_)))))
  obtain ⟨r161, hr161, hs⟩ := bO_of hs
  refine ru (co (.cons m0 .nil) (r8leave_ok hr161 fb fo _ _) (p0 pn)) (rz (sta 0 (mU m12) m0 t5) (q4 (bR (tR (pkE (p3 pn) (tE ro_dup (pkE (p4 pn) (sr (at_ recs r2) ?_))))))))
  refine pkE (p0 (p3 pn)) (tE (unfocus (xs := recs) (by have := g5; omega)) ?_)
  rw [set_at g5]
  obtain rfl := sI hs
  exact fa (eU e12) e4 (d3 (eP (p1 (p2 (p2 (p2 (p2 (p2 (p0 (p1 pn))))))))))
 refine q2 (zp (eqL m16 .const) (zp (asg m0) (q1 (ci hs m0 (fun h162 hs => ?_) (fun h162 hs => ?_)))))
 ·refine cS (q2 (zp (mv (mU m15)) (zp (op_neq m0 .const) (q1 (ci hs m0 (fun h163 hs => ?_) (fun h163 hs => ?_))))))
  ·refine q2 (zp (mv (mU m16)) (pkR (p4 pn) (rE ro_dup (pkR (p5 pn) (rE (shut (N := itN frC FrV.l fb fo f) (A3, c3) rfl) ?_)))))
   obtain ⟨r164, hr164, hs⟩ := bO_of hs
   refine ru (co (.cons m0 .nil) (r8leave_ok hr164 fb fo _ _) (p0 pn)) (rz (sta 0 (mU m16) m0 t5) (q4 (tR (bR (tR (pkE (p3 pn) (tE ro_dup (pkE (p4 pn) (sr (at_ recs r2) ?_)))))))))
   refine pkE (p0 (p3 pn)) (tE (unfocus (xs := recs) (by have := g5; omega)) ?_)
   rw [set_at g5]
   obtain rfl := sI hs
   exact fa (eU e16) e4 (d3 (eP (p1 (p2 (p2 (p2 (p2 (p2 (p0 (p1 pn))))))))))
  refine cK (tT (cS ?_))
  obtain ⟨g165, hs⟩ := gO hs
  obtain ⟨g166, hs⟩ := gO hs
  obtain ⟨g167, hs⟩ := gO hs
  refine ct_cutG (S := Option Addr) (G := Nat) (fun _ => True) (fun A171 c171 => [(8, vp b1 0), (1, vp fb fo)]) (fun A171 c171 => recsS (some ⟨rb6, ro6, none⟩) RC recs :: rowS A171 ((0 + (f.l.take ((wi (((f.l.length : Nat) : Int) - 1))).toNat).length) + 1) c171 1 ((([] ++ (f.l.take ((wi (((f.l.length : Nat) : Int) - 1))).toNat)) ++ [f.n]).map (Value.int .i64)) :: pts fb fo [vi f.kind, vi f.line, vi f.q.top, vi f.q.bottom, vi f.q.ring, vi f.q.cap, vi f.a, vi f.b, vi f.d, vi f.i, vi f.j, vi f.n, vi f.t, vu f.u, vu f.v, vu f.w, vu f.x, .slice A171 ((0 + (f.l.take ((wi (((f.l.length : Nat) : Int) - 1))).toNat).length) + 1) c171] :: pts b1 0 [.bool false, zi, zi] :: cP eb c l :: cfgL c l pl :: pts eb 19 [.slice (some ⟨rb6, ro6, none⟩) recs.length RC] :: evsS eb 20 evs :: [F]) ?_ (fun A171 c171 _ => (?_ : CT _ _ _ _ _ _ _ _ _))
  ·refine ca 23 ?_
   refine at_key (X := fun A_ => ∀ (b173 : Nat) (b168 : Nat), A_ #[true, true, true, true, true, true, true, true, true, true, true, true, true, false, true, true, true, true, true, false, false, false, false] 5 [(214, .slice (some ⟨b173, 0, none⟩) 1 1), (208, .slice A3 ((f.l.take ((wi (((f.l.length : Nat) : Int) - 1))).toNat).length) c3), (197, .slice (some ⟨b168, 0, none⟩) 0 0), (196, vp fb fo), (8, vp b1 0), (1, vp fb fo)] (pts b173 0 [vi f.n] :: pts b168 0 [] :: pts rb6 (ro6 + (r2).toNat * 7) [vi ((at_ recs r2).prog), vi ((at_ recs r2).parent), vi ((at_ recs r2).pc), vi ((at_ recs r2).left), vi ((at_ recs r2).waiting), .slice A8 ((at_ recs r2).kids.length) c8, .bool ((at_ recs r2).started)] :: roS encInt 1 A8 c8 ((at_ recs r2).kids) :: holeI recC RecV.kids 7 rb6 ro6 RC recs ((r2).toNat) :: pts fb fo [vi f.kind, vi f.line, vi f.q.top, vi f.q.bottom, vi f.q.ring, vi f.q.cap, vi f.a, vi f.b, vi f.d, vi f.i, vi f.j, vi f.n, vi f.t, vu f.u, vu f.v, vu f.w, vu f.x, .slice A3 f.l.length c3] :: roS encInt 1 A3 c3 f.l :: pts b1 0 [.bool false, zi, zi] :: cP eb c l :: cfgL c l pl :: pts eb 19 [.slice (some ⟨rb6, ro6, none⟩) recs.length RC] :: evsS eb 20 evs :: [F])) ?_ (fun k196 => ?_)
   ·intro b173 b168
    show AT _ _ _ _ _ _ _ _ _ _
    refine pkA (p1 pn) (aE (Ent.cons (rowS_of_pts (n := 0) (sz := 1) (vs := List.map (Value.int .i64) []) rfl (by unfold maxLen; omega)) Ent.refl) (pkA (p6 pn) (aE (ro_take (k := ((wi (((f.l.length : Nat) : Int) - 1))).toNat)) (tn 13 rfl (ot_appendG (by_ := 8) (z := zi) (us := (f.l.take ((wi (((f.l.length : Nat) : Int) - 1))).toNat).map (Value.int .i64)) m2 m1 (src_ro (enc := encInt) (fun _ => rfl) e0 rfl) pick2 Tryz.underlying23 (infoB_of (by kernel_rfl)) rfl (by decide) (by simp) all_ints (by unfold maxLen; omega) (by omega)) ?_))))
    rintro ⟨A197, c197⟩
    refine aE (ent_appx (ys := (f.l.take ((wi (((f.l.length : Nat) : Int) - 1))).toNat)) rfl) (tn 19 rfl (ot_append (by_ := 8) (z := zi) m0 m1 (p0 (p2 .nil)) Tryz.underlying23 (infoB_of (by kernel_rfl)) rfl (by decide) rfl rfl (by decide) (by unfold maxLen; omega) (by omega)) ?_)
    rintro ⟨A198, c198⟩
    refine aE (ent_appx (ys := [f.n]) rfl) (zt 20 rfl (nc m5) ?_)
    refine zt 21 rfl (fd 17 (fo + 17) m0) ?_
    refine tz 22 rfl (st1 fo w17 m0 m2 t6) ?_
    refine zz ?_
    refine pkE (p4 pn) (tE ro_dup (pkE (p5 pn) (sr (at_ recs r2) ?_)))
    refine pkE (p0 (p4 pn)) (tE (unfocus (xs := recs) (by have := g5; omega)) ?_)
    rw [set_at g5]
    exact aK A198 c198 trivial (lc e8 (lc e9 lN)) (d3 (eP (p1 (p2 (p2 pn)))))
   refine at_key (X := fun A_ => ∀ (b168 : Nat), A_ #[true, true, true, true, true, true, true, true, true, true, true, true, true, false, true, true, true, true, false, false, false, false, false] 6 [(213, vi f.n), (208, .slice A3 ((f.l.take ((wi (((f.l.length : Nat) : Int) - 1))).toNat).length) c3), (197, .slice (some ⟨b168, 0, none⟩) 0 0), (196, vp fb fo), (8, vp b1 0), (1, vp fb fo)] (pts b168 0 [] :: pts rb6 (ro6 + (r2).toNat * 7) [vi ((at_ recs r2).prog), vi ((at_ recs r2).parent), vi ((at_ recs r2).pc), vi ((at_ recs r2).left), vi ((at_ recs r2).waiting), .slice A8 ((at_ recs r2).kids.length) c8, .bool ((at_ recs r2).started)] :: roS encInt 1 A8 c8 ((at_ recs r2).kids) :: holeI recC RecV.kids 7 rb6 ro6 RC recs ((r2).toNat) :: pts fb fo [vi f.kind, vi f.line, vi f.q.top, vi f.q.bottom, vi f.q.ring, vi f.q.cap, vi f.a, vi f.b, vi f.d, vi f.i, vi f.j, vi f.n, vi f.t, vu f.u, vu f.v, vu f.w, vu f.x, .slice A3 f.l.length c3] :: roS encInt 1 A3 c3 f.l :: pts b1 0 [.bool false, zi, zi] :: cP eb c l :: cfgL c l pl :: pts eb 19 [.slice (some ⟨rb6, ro6, none⟩) recs.length RC] :: evsS eb 20 evs :: [F])) ?_ (fun k199 => ?_)
   ·intro b168
    show AT _ _ _ _ _ _ _ _ _ _
    refine x2 13 18 ?_ ?_
    ·refine uE (Ent.cons (rowS_of_pts (n := 0) (sz := 1) (vs := List.map (Value.int .i64) []) rfl (by unfold maxLen; omega)) Ent.refl) (uE (Ent.picks (p5 .nil)) (uE (ro_take (k := ((wi (((f.l.length : Nat) : Int) - 1))).toNat)) (un rfl (ot_appendG (by_ := 8) (z := zi) (us := (f.l.take ((wi (((f.l.length : Nat) : Int) - 1))).toNat).map (Value.int .i64)) m2 m1 (src_ro (enc := encInt) (fun _ => rfl) e0 rfl) pick2 Tryz.underlying23 (infoB_of (by kernel_rfl)) rfl (by decide) (by simp) all_ints (by unfold maxLen; omega) (by omega)) ?_)))
     rintro ⟨A200, c200⟩
     refine aE (ent_appx (ys := (f.l.take ((wi (((f.l.length : Nat) : Int) - 1))).toNat)) rfl) (tn 18 rfl (ot_buildSlice (T' := 3) (us := [vi f.n]) (.cons m1 .nil) (fun _ => by kernel_rfl)) ?_)
     rintro b201
     refine tn 19 rfl (ot_append (by_ := 8) (z := zi) m1 m0 (p1 (p0 .nil)) Tryz.underlying23 (infoB_of (by kernel_rfl)) rfl (by decide) rfl rfl (by decide) (by unfold maxLen; omega) (by omega)) ?_
     rintro ⟨A202, c202⟩
     refine aE (ent_appx (ys := [f.n]) rfl) (zt 20 rfl (nc m6) ?_)
     refine zt 21 rfl (fd 17 (fo + 17) m0) ?_
     refine tz 22 rfl (st1 fo w17 m0 m2 t6) ?_
     refine zz ?_
     refine pkE (p4 pn) (tE ro_dup (pkE (p5 pn) (sr (at_ recs r2) ?_)))
     refine pkE (p0 (p4 pn)) (tE (unfocus (xs := recs) (by have := g5; omega)) ?_)
     rw [set_at g5]
     exact aK A202 c202 trivial (lc e9 (lc e10 lN)) (d3 (eP (p1 (p2 (p2 pn)))))
    refine un rfl (ot_buildSlice (T' := 3) (us := [vi f.n]) (.cons m0 .nil) (fun _ => by kernel_rfl)) ?_
    rintro b203
    exact at_use (k196 b203 b168) (lc e0 (lc e2 (lc e3 (lc e4 (lc e5 (lc e6 lN)))))) Ent.refl
   refine at_key (X := fun A_ => ∀ (b168 : Nat), A_ #[true, true, true, true, true, true, true, true, true, true, true, true, true, false, true, true, true, false, false, false, false, false, false] 7 [(208, .slice A3 ((f.l.take ((wi (((f.l.length : Nat) : Int) - 1))).toNat).length) c3), (197, .slice (some ⟨b168, 0, none⟩) 0 0), (212, vp fb (fo + 11)), (196, vp fb fo), (8, vp b1 0), (1, vp fb fo)] (pts b168 0 [] :: pts rb6 (ro6 + (r2).toNat * 7) [vi ((at_ recs r2).prog), vi ((at_ recs r2).parent), vi ((at_ recs r2).pc), vi ((at_ recs r2).left), vi ((at_ recs r2).waiting), .slice A8 ((at_ recs r2).kids.length) c8, .bool ((at_ recs r2).started)] :: roS encInt 1 A8 c8 ((at_ recs r2).kids) :: holeI recC RecV.kids 7 rb6 ro6 RC recs ((r2).toNat) :: pts fb fo [vi f.kind, vi f.line, vi f.q.top, vi f.q.bottom, vi f.q.ring, vi f.q.cap, vi f.a, vi f.b, vi f.d, vi f.i, vi f.j, vi f.n, vi f.t, vu f.u, vu f.v, vu f.w, vu f.x, .slice A3 f.l.length c3] :: roS encInt 1 A3 c3 f.l :: pts b1 0 [.bool false, zi, zi] :: cP eb c l :: cfgL c l pl :: pts eb 19 [.slice (some ⟨rb6, ro6, none⟩) recs.length RC] :: evsS eb 20 evs :: [F])) ?_ (fun k205 => ?_)
   ·intro b168
    show AT _ _ _ _ _ _ _ _ _ _
    refine x2 13 17 ?_ ?_
    ·refine uE (Ent.cons (rowS_of_pts (n := 0) (sz := 1) (vs := List.map (Value.int .i64) []) rfl (by unfold maxLen; omega)) Ent.refl) (uE (Ent.picks (p5 .nil)) (uE (ro_take (k := ((wi (((f.l.length : Nat) : Int) - 1))).toNat)) (un rfl (ot_appendG (by_ := 8) (z := zi) (us := (f.l.take ((wi (((f.l.length : Nat) : Int) - 1))).toNat).map (Value.int .i64)) m1 m0 (src_ro (enc := encInt) (fun _ => rfl) e0 rfl) pick2 Tryz.underlying23 (infoB_of (by kernel_rfl)) rfl (by decide) (by simp) all_ints (by unfold maxLen; omega) (by omega)) ?_)))
     rintro ⟨A206, c206⟩
     refine aE (ent_appx (ys := (f.l.take ((wi (((f.l.length : Nat) : Int) - 1))).toNat)) rfl) (za 17 rfl (ld fo 11 m3 e6 rfl) ?_)
     refine tn 18 rfl (ot_buildSlice (T' := 3) (us := [vi f.n]) (.cons m0 .nil) (fun _ => by kernel_rfl)) ?_
     rintro b207
     refine tn 19 rfl (ot_append (by_ := 8) (z := zi) m2 m0 (p1 (p0 .nil)) Tryz.underlying23 (infoB_of (by kernel_rfl)) rfl (by decide) rfl rfl (by decide) (by unfold maxLen; omega) (by omega)) ?_
     rintro ⟨A208, c208⟩
     refine aE (ent_appx (ys := [f.n]) rfl) (zt 20 rfl (nc m7) ?_)
     refine zt 21 rfl (fd 17 (fo + 17) m0) ?_
     refine tz 22 rfl (st1 fo w17 m0 m2 t6) ?_
     refine zz ?_
     refine pkE (p4 pn) (tE ro_dup (pkE (p5 pn) (sr (at_ recs r2) ?_)))
     refine pkE (p0 (p4 pn)) (tE (unfocus (xs := recs) (by have := g5; omega)) ?_)
     rw [set_at g5]
     exact aK A208 c208 trivial (lc e10 (lc e11 lN)) (d3 (eP (p1 (p2 (p2 pn)))))
    refine zs rfl (ld fo 11 m2 e4 rfl) ?_
    exact at_use (k199 b168) (lc e0 (lc e1 (lc e2 (lc e4 (lc e5 (lc e6 lN)))))) Ent.refl
   refine at_key (X := fun A_ => A_ #[true, false, true, true, true, true, true, true, true, true, true, true, true, false, true, true, true, true, false, false, false, false, false] 7 [(213, vi f.n), (208, .slice A3 ((f.l.take ((wi (((f.l.length : Nat) : Int) - 1))).toNat).length) c3), (196, vp fb fo), (8, vp b1 0), (1, vp fb fo)] (pts rb6 (ro6 + (r2).toNat * 7) [vi ((at_ recs r2).prog), vi ((at_ recs r2).parent), vi ((at_ recs r2).pc), vi ((at_ recs r2).left), vi ((at_ recs r2).waiting), .slice A8 ((at_ recs r2).kids.length) c8, .bool ((at_ recs r2).started)] :: roS encInt 1 A8 c8 ((at_ recs r2).kids) :: holeI recC RecV.kids 7 rb6 ro6 RC recs ((r2).toNat) :: pts fb fo [vi f.kind, vi f.line, vi f.q.top, vi f.q.bottom, vi f.q.ring, vi f.q.cap, vi f.a, vi f.b, vi f.d, vi f.i, vi f.j, vi f.n, vi f.t, vu f.u, vu f.v, vu f.w, vu f.x, .slice A3 f.l.length c3] :: roS encInt 1 A3 c3 f.l :: pts b1 0 [.bool false, zi, zi] :: cP eb c l :: cfgL c l pl :: pts eb 19 [.slice (some ⟨rb6, ro6, none⟩) recs.length RC] :: evsS eb 20 evs :: [F])) ?_ (fun k210 => ?_)
   ·show AT _ _ _ _ _ _ _ _ _ _
    refine x2 1 18 ?_ ?_
    ·refine un rfl (ot_buildSlice (T' := 3) (us := []) .nil (fun _ => by kernel_rfl)) ?_
     rintro b211
     exact at_use (k199 b211) (lc e1 (lc e2 (lc e0 (lc e3 (lc e4 (lc e5 lN)))))) Ent.refl
    refine un rfl (ot_buildSlice (T' := 3) (us := [vi f.n]) (.cons m0 .nil) (fun _ => by kernel_rfl)) ?_
    rintro b212
    refine tn 1 rfl (ot_buildSlice (T' := 3) (us := []) .nil (fun _ => by kernel_rfl)) ?_
    rintro b213
    exact at_use (k196 b212 b213) (lc e1 (lc e3 (lc e0 (lc e4 (lc e5 (lc e6 lN)))))) (eP (p1 pn))
   refine at_key (X := fun A_ => ∀ (b168 : Nat), A_ #[true, true, true, true, true, false, true, true, true, true, true, true, false, false, true, true, true, true, false, false, false, false, false] 8 [(213, vi f.n), (207, vi ((wi (((f.l.length : Nat) : Int) - 1)))), (197, .slice (some ⟨b168, 0, none⟩) 0 0), (200, vp fb (fo + 17)), (196, vp fb fo), (8, vp b1 0), (1, vp fb fo)] (pts b168 0 [] :: pts rb6 (ro6 + (r2).toNat * 7) [vi ((at_ recs r2).prog), vi ((at_ recs r2).parent), vi ((at_ recs r2).pc), vi ((at_ recs r2).left), vi ((at_ recs r2).waiting), .slice A8 ((at_ recs r2).kids.length) c8, .bool ((at_ recs r2).started)] :: roS encInt 1 A8 c8 ((at_ recs r2).kids) :: holeI recC RecV.kids 7 rb6 ro6 RC recs ((r2).toNat) :: pts fb fo [vi f.kind, vi f.line, vi f.q.top, vi f.q.bottom, vi f.q.ring, vi f.q.cap, vi f.a, vi f.b, vi f.d, vi f.i, vi f.j, vi f.n, vi f.t, vu f.u, vu f.v, vu f.w, vu f.x, .slice A3 f.l.length c3] :: roS encInt 1 A3 c3 f.l :: pts b1 0 [.bool false, zi, zi] :: cP eb c l :: cfgL c l pl :: pts eb 19 [.slice (some ⟨rb6, ro6, none⟩) recs.length RC] :: evsS eb 20 evs :: [F])) ?_ (fun k214 => ?_)
   ·intro b168
    show AT _ _ _ _ _ _ _ _ _ _
    refine x2 5 18 ?_ ?_
    ·refine zs rfl (ld fo 17 m3 e4 rfl) ?_
     refine zt 12 rfl (op_sliceH (xs := f.l) m0 Tryz.underlying23 (by kernel_rfl : _ = 1) (by omega) m2 g165 hc4) ?_
     exact at_use (k199 b168) (lc e2 (lc e0 (lc e4 (lc e6 (lc e7 (lc e8 lN)))))) Ent.refl
    refine un rfl (ot_buildSlice (T' := 3) (us := [vi f.n]) (.cons m0 .nil) (fun _ => by kernel_rfl)) ?_
    rintro b215
    refine za 5 rfl (ld fo 17 m4 e5 rfl) ?_
    refine zt 12 rfl (op_sliceH (xs := f.l) m0 Tryz.underlying23 (by kernel_rfl : _ = 1) (by omega) m3 g165 hc4) ?_
    exact at_use (k196 b215 b168) (lc e2 (lc e0 (lc e5 (lc e7 (lc e8 (lc e9 lN)))))) Ent.refl
   refine at_key (X := fun A_ => A_ #[true, false, true, true, true, false, true, true, true, true, true, true, false, false, true, true, true, true, false, false, false, false, false] 9 [(213, vi f.n), (207, vi ((wi (((f.l.length : Nat) : Int) - 1)))), (200, vp fb (fo + 17)), (196, vp fb fo), (8, vp b1 0), (1, vp fb fo)] (pts rb6 (ro6 + (r2).toNat * 7) [vi ((at_ recs r2).prog), vi ((at_ recs r2).parent), vi ((at_ recs r2).pc), vi ((at_ recs r2).left), vi ((at_ recs r2).waiting), .slice A8 ((at_ recs r2).kids.length) c8, .bool ((at_ recs r2).started)] :: roS encInt 1 A8 c8 ((at_ recs r2).kids) :: holeI recC RecV.kids 7 rb6 ro6 RC recs ((r2).toNat) :: pts fb fo [vi f.kind, vi f.line, vi f.q.top, vi f.q.bottom, vi f.q.ring, vi f.q.cap, vi f.a, vi f.b, vi f.d, vi f.i, vi f.j, vi f.n, vi f.t, vu f.u, vu f.v, vu f.w, vu f.x, .slice A3 f.l.length c3] :: roS encInt 1 A3 c3 f.l :: pts b1 0 [.bool false, zi, zi] :: cP eb c l :: cfgL c l pl :: pts eb 19 [.slice (some ⟨rb6, ro6, none⟩) recs.length RC] :: evsS eb 20 evs :: [F])) ?_ (fun k220 => ?_)
   ·show AT _ _ _ _ _ _ _ _ _ _
    refine x3 1 5 18 ?_ ?_ ?_
    ·refine un rfl (ot_buildSlice (T' := 3) (us := []) .nil (fun _ => by kernel_rfl)) ?_
     rintro b221
     exact at_use (k214 b221) (lc e1 (lc e2 (lc e0 (lc e3 (lc e4 (lc e5 (lc e6 lN))))))) Ent.refl
    ·refine zs rfl (ld fo 17 m2 e3 rfl) ?_
     refine zt 12 rfl (op_sliceH (xs := f.l) m0 Tryz.underlying23 (by kernel_rfl : _ = 1) (by omega) m2 g165 hc4) ?_
     exact at_use k210 (lc e2 (lc e0 (lc e5 (lc e6 (lc e7 lN))))) Ent.refl
    refine un rfl (ot_buildSlice (T' := 3) (us := [vi f.n]) (.cons m0 .nil) (fun _ => by kernel_rfl)) ?_
    rintro b222
    refine x2 1 5 ?_ ?_
    ·refine un rfl (ot_buildSlice (T' := 3) (us := []) .nil (fun _ => by kernel_rfl)) ?_
     rintro b223
     refine za 5 rfl (ld fo 17 m4 e5 rfl) ?_
     refine zt 12 rfl (op_sliceH (xs := f.l) m0 Tryz.underlying23 (by kernel_rfl : _ = 1) (by omega) m4 g165 hc4) ?_
     exact at_use (k196 b222 b223) (lc e3 (lc e0 (lc e2 (lc e7 (lc e8 (lc e9 lN)))))) (eP (p1 pn))
    refine zs rfl (ld fo 17 m3 e4 rfl) ?_
    refine zt 12 rfl (op_sliceH (xs := f.l) m0 Tryz.underlying23 (by kernel_rfl : _ = 1) (by omega) m3 g165 hc4) ?_
    refine tn 1 rfl (ot_buildSlice (T' := 3) (us := []) .nil (fun _ => by kernel_rfl)) ?_
    rintro b224
    exact at_use (k196 b222 b224) (lc e3 (lc e1 (lc e0 (lc e7 (lc e8 (lc e9 lN)))))) (eP (p1 pn))
   refine at_key (X := fun A_ => ∀ (b168 : Nat), A_ #[true, true, true, true, true, true, true, true, true, false, false, false, false, false, true, true, true, true, false, false, false, false, false] 10 [(213, vi f.n), (201, .slice A3 f.l.length c3), (197, .slice (some ⟨b168, 0, none⟩) 0 0), (204, vp fb (fo + 17)), (196, vp fb fo), (8, vp b1 0), (1, vp fb fo)] (pts b168 0 [] :: pts rb6 (ro6 + (r2).toNat * 7) [vi ((at_ recs r2).prog), vi ((at_ recs r2).parent), vi ((at_ recs r2).pc), vi ((at_ recs r2).left), vi ((at_ recs r2).waiting), .slice A8 ((at_ recs r2).kids.length) c8, .bool ((at_ recs r2).started)] :: roS encInt 1 A8 c8 ((at_ recs r2).kids) :: holeI recC RecV.kids 7 rb6 ro6 RC recs ((r2).toNat) :: pts fb fo [vi f.kind, vi f.line, vi f.q.top, vi f.q.bottom, vi f.q.ring, vi f.q.cap, vi f.a, vi f.b, vi f.d, vi f.i, vi f.j, vi f.n, vi f.t, vu f.u, vu f.v, vu f.w, vu f.x, .slice A3 f.l.length c3] :: roS encInt 1 A3 c3 f.l :: pts b1 0 [.bool false, zi, zi] :: cP eb c l :: cfgL c l pl :: pts eb 19 [.slice (some ⟨rb6, ro6, none⟩) recs.length RC] :: evsS eb 20 evs :: [F])) ?_ (fun k225 => ?_)
   ·intro b168
    show AT _ _ _ _ _ _ _ _ _ _
    refine x2 9 18 ?_ ?_
    ·refine zs rfl (ld fo 17 m3 e4 rfl) ?_
     refine zt 10 rfl (op_len m0 Tryz.underlying23) ?_
     refine zt 11 rfl (op_subI m0 .const) ?_
     refine zt 12 rfl (op_sliceH (xs := f.l) m4 Tryz.underlying23 (by kernel_rfl : _ = 1) (by omega) m0 g165 hc4) ?_
     exact at_use (k199 b168) (lc e4 (lc e0 (lc e6 (lc e8 (lc e9 (lc e10 lN)))))) Ent.refl
    refine un rfl (ot_buildSlice (T' := 3) (us := [vi f.n]) (.cons m0 .nil) (fun _ => by kernel_rfl)) ?_
    rintro b226
    refine za 9 rfl (ld fo 17 m4 e5 rfl) ?_
    refine zt 10 rfl (op_len m0 Tryz.underlying23) ?_
    refine zt 11 rfl (op_subI m0 .const) ?_
    refine zt 12 rfl (op_sliceH (xs := f.l) m5 Tryz.underlying23 (by kernel_rfl : _ = 1) (by omega) m0 g165 hc4) ?_
    exact at_use (k196 b226 b168) (lc e4 (lc e0 (lc e7 (lc e9 (lc e10 (lc e11 lN)))))) Ent.refl
   refine at_key (X := fun A_ => ∀ (b184 : Nat), A_ #[true, false, true, true, true, true, true, true, true, false, false, false, false, false, true, true, true, true, true, false, false, false, false] 10 [(214, .slice (some ⟨b184, 0, none⟩) 1 1), (201, .slice A3 f.l.length c3), (204, vp fb (fo + 17)), (196, vp fb fo), (8, vp b1 0), (1, vp fb fo)] (pts b184 0 [vi f.n] :: pts rb6 (ro6 + (r2).toNat * 7) [vi ((at_ recs r2).prog), vi ((at_ recs r2).parent), vi ((at_ recs r2).pc), vi ((at_ recs r2).left), vi ((at_ recs r2).waiting), .slice A8 ((at_ recs r2).kids.length) c8, .bool ((at_ recs r2).started)] :: roS encInt 1 A8 c8 ((at_ recs r2).kids) :: holeI recC RecV.kids 7 rb6 ro6 RC recs ((r2).toNat) :: pts fb fo [vi f.kind, vi f.line, vi f.q.top, vi f.q.bottom, vi f.q.ring, vi f.q.cap, vi f.a, vi f.b, vi f.d, vi f.i, vi f.j, vi f.n, vi f.t, vu f.u, vu f.v, vu f.w, vu f.x, .slice A3 f.l.length c3] :: roS encInt 1 A3 c3 f.l :: pts b1 0 [.bool false, zi, zi] :: cP eb c l :: cfgL c l pl :: pts eb 19 [.slice (some ⟨rb6, ro6, none⟩) recs.length RC] :: evsS eb 20 evs :: [F])) ?_ (fun k228 => ?_)
   ·intro b184
    show AT _ _ _ _ _ _ _ _ _ _
    refine x2 1 9 ?_ ?_
    ·refine un rfl (ot_buildSlice (T' := 3) (us := []) .nil (fun _ => by kernel_rfl)) ?_
     rintro b229
     refine za 9 rfl (ld fo 17 m3 e5 rfl) ?_
     refine zt 10 rfl (op_len m0 Tryz.underlying23) ?_
     refine zt 11 rfl (op_subI m0 .const) ?_
     refine zt 12 rfl (op_sliceH (xs := f.l) m5 Tryz.underlying23 (by kernel_rfl : _ = 1) (by omega) m0 g165 hc4) ?_
     exact at_use (k196 b184 b229) (lc e5 (lc e0 (lc e4 (lc e8 (lc e9 (lc e10 lN)))))) (eP (p1 pn))
    refine zs rfl (ld fo 17 m2 e4 rfl) ?_
    refine zt 10 rfl (op_len m0 Tryz.underlying23) ?_
    refine zt 11 rfl (op_subI m0 .const) ?_
    refine zt 12 rfl (op_sliceH (xs := f.l) m4 Tryz.underlying23 (by kernel_rfl : _ = 1) (by omega) m0 g165 hc4) ?_
    refine tn 1 rfl (ot_buildSlice (T' := 3) (us := []) .nil (fun _ => by kernel_rfl)) ?_
    rintro b230
    exact at_use (k196 b184 b230) (lc e5 (lc e1 (lc e0 (lc e8 (lc e9 (lc e10 lN)))))) (eP (p1 pn))
   refine at_key (X := fun A_ => ∀ (b168 : Nat), A_ #[true, true, true, true, true, false, true, true, true, false, false, false, false, false, true, true, true, true, false, false, false, false, false] 11 [(213, vi f.n), (197, .slice (some ⟨b168, 0, none⟩) 0 0), (204, vp fb (fo + 17)), (200, vp fb (fo + 17)), (196, vp fb fo), (8, vp b1 0), (1, vp fb fo)] (pts b168 0 [] :: pts rb6 (ro6 + (r2).toNat * 7) [vi ((at_ recs r2).prog), vi ((at_ recs r2).parent), vi ((at_ recs r2).pc), vi ((at_ recs r2).left), vi ((at_ recs r2).waiting), .slice A8 ((at_ recs r2).kids.length) c8, .bool ((at_ recs r2).started)] :: roS encInt 1 A8 c8 ((at_ recs r2).kids) :: holeI recC RecV.kids 7 rb6 ro6 RC recs ((r2).toNat) :: pts fb fo [vi f.kind, vi f.line, vi f.q.top, vi f.q.bottom, vi f.q.ring, vi f.q.cap, vi f.a, vi f.b, vi f.d, vi f.i, vi f.j, vi f.n, vi f.t, vu f.u, vu f.v, vu f.w, vu f.x, .slice A3 f.l.length c3] :: roS encInt 1 A3 c3 f.l :: pts b1 0 [.bool false, zi, zi] :: cP eb c l :: cfgL c l pl :: pts eb 19 [.slice (some ⟨rb6, ro6, none⟩) recs.length RC] :: evsS eb 20 evs :: [F])) ?_ (fun k232 => ?_)
   ·intro b168
    show AT _ _ _ _ _ _ _ _ _ _
    refine x3 5 9 18 ?_ ?_ ?_
    ·refine zs rfl (ld fo 17 m3 e4 rfl) ?_
     exact at_use (k225 b168) (lc e1 (lc e0 (lc e2 (lc e3 (lc e5 (lc e6 (lc e7 lN))))))) Ent.refl
    ·refine zs rfl (ld fo 17 m2 e4 rfl) ?_
     refine zt 10 rfl (op_len m0 Tryz.underlying23) ?_
     refine zt 11 rfl (op_subI m0 .const) ?_
     exact at_use (k214 b168) (lc e3 (lc e0 (lc e4 (lc e6 (lc e7 (lc e8 (lc e9 lN))))))) Ent.refl
    refine un rfl (ot_buildSlice (T' := 3) (us := [vi f.n]) (.cons m0 .nil) (fun _ => by kernel_rfl)) ?_
    rintro b233
    refine at_group [5, 9, 10, 11, 12] 5 rfl (by kernel_rfl) rfl ?_
    exact yq (ld fo 17 m4 e5 rfl) (yq (ld fo 17 m4 e5 rfl) (yp (op_len m0 Tryz.underlying23) (yp (op_subI m0 .const) (yp (op_sliceH (xs := f.l) m3 Tryz.underlying23 (by kernel_rfl : _ = 1) (by omega) m0 g165 hc4) (qN (at_use (k196 b233 b168) (lc e5 (lc e0 (lc e7 (lc e10 (lc e11 (lc e12 lN)))))) Ent.refl))))))
   refine zt 0 rfl (mv (mU m16)) ?_
   refine zt 2 rfl (mv (mU m17)) ?_
   refine zt 3 rfl (nc m0) ?_
   refine zt 4 rfl (fd 17 (fo + 17) m0) ?_
   refine zt 6 rfl (mv (mU (mU m0))) ?_
   refine zt 7 rfl (nc m0) ?_
   refine zt 8 rfl (fd 17 (fo + 17) m0) ?_
   refine zt 14 rfl (mv (mU (mU m3))) ?_
   refine zt 15 rfl (nc m0) ?_
   refine zt 16 rfl (fd 11 (fo + 11) m0) ?_
   refine at_each (H := [1, 5, 9, 17]) (by kernel_rfl) rfl (each_cons ?_ (each_cons ?_ (each_cons ?_ (each_cons ?_ each_nil))))
   ·refine un rfl (ot_buildSlice (T' := 3) (us := []) .nil (fun _ => by kernel_rfl)) ?_
    rintro b235
    refine x3 5 9 17 ?_ ?_ ?_
    ·refine zs rfl (ld fo 17 m7 e4 rfl) ?_
     refine x2 9 17 ?_ ?_
     ·refine zs rfl (ld fo 17 m5 e4 rfl) ?_
      refine zt 10 rfl (op_len m0 Tryz.underlying23) ?_
      refine zt 11 rfl (op_subI m0 .const) ?_
      refine zt 12 rfl (op_sliceH (xs := f.l) m3 Tryz.underlying23 (by kernel_rfl : _ = 1) (by omega) m0 g165 hc4) ?_
      exact at_use (k205 b235) (lc e0 (lc e5 (lc e6 (lc e15 (lc (eU (eU e10)) (lc (eU (eU e12)) lN)))))) Ent.refl
     refine zs rfl (ld fo 11 m2 e4 rfl) ?_
     exact at_use (k225 b235) (lc e0 (lc e1 (lc e2 (lc e6 (lc e12 (lc (eU (eU e7)) (lc (eU (eU e9)) lN))))))) Ent.refl
    ·refine zs rfl (ld fo 17 m4 e4 rfl) ?_
     refine zt 10 rfl (op_len m0 Tryz.underlying23) ?_
     refine zt 11 rfl (op_subI m0 .const) ?_
     refine x2 5 17 ?_ ?_
     ·refine zs rfl (ld fo 17 m10 e4 rfl) ?_
      refine zt 12 rfl (op_sliceH (xs := f.l) m0 Tryz.underlying23 (by kernel_rfl : _ = 1) (by omega) m1 g165 hc4) ?_
      exact at_use (k205 b235) (lc e0 (lc e5 (lc e6 (lc e15 (lc (eU (eU e10)) (lc (eU (eU e12)) lN)))))) Ent.refl
     refine zs rfl (ld fo 11 m4 e4 rfl) ?_
     exact at_use (k214 b235) (lc e0 (lc e1 (lc e4 (lc e11 (lc e14 (lc (eU (eU e9)) (lc (eU (eU e11)) lN))))))) Ent.refl
    refine zs rfl (ld fo 11 m1 e4 rfl) ?_
    exact at_use (k232 b235) (lc e0 (lc e1 (lc e5 (lc e8 (lc e11 (lc (eU (eU e6)) (lc (eU (eU e8)) lN))))))) Ent.refl
   ·refine zs rfl (ld fo 17 m6 e3 rfl) ?_
    refine x3 1 9 17 ?_ ?_ ?_
    ·refine un rfl (ot_buildSlice (T' := 3) (us := []) .nil (fun _ => by kernel_rfl)) ?_
     rintro b236
     refine x2 9 17 ?_ ?_
     ·refine zs rfl (ld fo 17 m5 e4 rfl) ?_
      refine zt 10 rfl (op_len m0 Tryz.underlying23) ?_
      refine zt 11 rfl (op_subI m0 .const) ?_
      refine zt 12 rfl (op_sliceH (xs := f.l) m4 Tryz.underlying23 (by kernel_rfl : _ = 1) (by omega) m0 g165 hc4) ?_
      exact at_use (k205 b236) (lc e0 (lc e4 (lc e6 (lc e15 (lc (eU (eU e10)) (lc (eU (eU e12)) lN)))))) Ent.refl
     refine zs rfl (ld fo 11 m2 e4 rfl) ?_
     exact at_use (k225 b236) (lc e0 (lc e2 (lc e1 (lc e6 (lc e12 (lc (eU (eU e7)) (lc (eU (eU e9)) lN))))))) Ent.refl
    ·refine zs rfl (ld fo 17 m4 e3 rfl) ?_
     refine zt 10 rfl (op_len m0 Tryz.underlying23) ?_
     refine zt 11 rfl (op_subI m0 .const) ?_
     refine zt 12 rfl (op_sliceH (xs := f.l) m3 Tryz.underlying23 (by kernel_rfl : _ = 1) (by omega) m0 g165 hc4) ?_
     refine x2 1 17 ?_ ?_
     ·refine un rfl (ot_buildSlice (T' := 3) (us := []) .nil (fun _ => by kernel_rfl)) ?_
      rintro b237
      exact at_use (k205 b237) (lc e1 (lc e0 (lc e6 (lc e15 (lc (eU (eU e10)) (lc (eU (eU e12)) lN)))))) Ent.refl
     refine zs rfl (ld fo 11 m5 e3 rfl) ?_
     exact at_use k210 (lc e0 (lc e1 (lc e15 (lc (eU (eU e10)) (lc (eU (eU e12)) lN))))) Ent.refl
    refine zs rfl (ld fo 11 m1 e3 rfl) ?_
    refine x3 1 9 18 ?_ ?_ ?_
    ·refine un rfl (ot_buildSlice (T' := 3) (us := []) .nil (fun _ => by kernel_rfl)) ?_
     rintro b238
     exact at_use (k225 b238) (lc e1 (lc e2 (lc e0 (lc e6 (lc e12 (lc (eU (eU e7)) (lc (eU (eU e9)) lN))))))) Ent.refl
    ·refine zs rfl (ld fo 17 m5 e3 rfl) ?_
     refine zt 10 rfl (op_len m0 Tryz.underlying23) ?_
     refine zt 11 rfl (op_subI m0 .const) ?_
     refine zt 12 rfl (op_sliceH (xs := f.l) m4 Tryz.underlying23 (by kernel_rfl : _ = 1) (by omega) m0 g165 hc4) ?_
     exact at_use k210 (lc e4 (lc e0 (lc e15 (lc (eU (eU e10)) (lc (eU (eU e12)) lN))))) Ent.refl
    refine un rfl (ot_buildSlice (T' := 3) (us := [vi f.n]) (.cons m0 .nil) (fun _ => by kernel_rfl)) ?_
    rintro b239
    exact at_use (k228 b239) (lc e0 (lc e2 (lc e6 (lc e12 (lc (eU (eU e7)) (lc (eU (eU e9)) lN)))))) Ent.refl
   ·refine zs rfl (ld fo 17 m3 e3 rfl) ?_
    refine zt 10 rfl (op_len m0 Tryz.underlying23) ?_
    refine zt 11 rfl (op_subI m0 .const) ?_
    refine x3 1 5 17 ?_ ?_ ?_
    ·refine un rfl (ot_buildSlice (T' := 3) (us := []) .nil (fun _ => by kernel_rfl)) ?_
     rintro b240
     refine x2 5 17 ?_ ?_
     ·refine zs rfl (ld fo 17 m10 e4 rfl) ?_
      refine zt 12 rfl (op_sliceH (xs := f.l) m0 Tryz.underlying23 (by kernel_rfl : _ = 1) (by omega) m2 g165 hc4) ?_
      exact at_use (k205 b240) (lc e0 (lc e2 (lc e6 (lc e15 (lc (eU (eU e10)) (lc (eU (eU e12)) lN)))))) Ent.refl
     refine zs rfl (ld fo 11 m4 e4 rfl) ?_
     exact at_use (k214 b240) (lc e0 (lc e2 (lc e1 (lc e11 (lc e14 (lc (eU (eU e9)) (lc (eU (eU e11)) lN))))))) Ent.refl
    ·refine zs rfl (ld fo 17 m9 e3 rfl) ?_
     refine zt 12 rfl (op_sliceH (xs := f.l) m0 Tryz.underlying23 (by kernel_rfl : _ = 1) (by omega) m1 g165 hc4) ?_
     refine x2 1 17 ?_ ?_
     ·refine un rfl (ot_buildSlice (T' := 3) (us := []) .nil (fun _ => by kernel_rfl)) ?_
      rintro b241
      exact at_use (k205 b241) (lc e1 (lc e0 (lc e6 (lc e15 (lc (eU (eU e10)) (lc (eU (eU e12)) lN)))))) Ent.refl
     refine zs rfl (ld fo 11 m5 e3 rfl) ?_
     exact at_use k210 (lc e0 (lc e1 (lc e15 (lc (eU (eU e10)) (lc (eU (eU e12)) lN))))) Ent.refl
    refine zs rfl (ld fo 11 m3 e3 rfl) ?_
    exact at_use k220 (lc e0 (lc e1 (lc e10 (lc e13 (lc (eU (eU e8)) (lc (eU (eU e10)) lN)))))) Ent.refl
   refine zs rfl (ld fo 11 m0 e3 rfl) ?_
   refine at_each (H := [1, 5, 9, 18]) (by kernel_rfl) rfl (each_cons ?_ (each_cons ?_ (each_cons ?_ (each_cons ?_ each_nil))))
   ·refine un rfl (ot_buildSlice (T' := 3) (us := []) .nil (fun _ => by kernel_rfl)) ?_
    rintro b242
    exact at_use (k232 b242) (lc e1 (lc e0 (lc e5 (lc e8 (lc e11 (lc (eU (eU e6)) (lc (eU (eU e8)) lN))))))) Ent.refl
   ·refine zs rfl (ld fo 17 m7 e3 rfl) ?_
    refine x3 1 9 18 ?_ ?_ ?_
    ·refine un rfl (ot_buildSlice (T' := 3) (us := []) .nil (fun _ => by kernel_rfl)) ?_
     rintro b243
     exact at_use (k225 b243) (lc e2 (lc e1 (lc e0 (lc e6 (lc e12 (lc (eU (eU e7)) (lc (eU (eU e9)) lN))))))) Ent.refl
    ·refine zs rfl (ld fo 17 m5 e3 rfl) ?_
     refine zt 10 rfl (op_len m0 Tryz.underlying23) ?_
     refine zt 11 rfl (op_subI m0 .const) ?_
     refine zt 12 rfl (op_sliceH (xs := f.l) m3 Tryz.underlying23 (by kernel_rfl : _ = 1) (by omega) m0 g165 hc4) ?_
     exact at_use k210 (lc e5 (lc e0 (lc e15 (lc (eU (eU e10)) (lc (eU (eU e12)) lN))))) Ent.refl
    refine un rfl (ot_buildSlice (T' := 3) (us := [vi f.n]) (.cons m1 .nil) (fun _ => by kernel_rfl)) ?_
    rintro b244
    exact at_use (k228 b244) (lc e0 (lc e1 (lc e6 (lc e12 (lc (eU (eU e7)) (lc (eU (eU e9)) lN)))))) Ent.refl
   ·refine zs rfl (ld fo 17 m4 e3 rfl) ?_
    refine zt 10 rfl (op_len m0 Tryz.underlying23) ?_
    refine zt 11 rfl (op_subI m0 .const) ?_
    exact at_use k220 (lc e3 (lc e0 (lc e10 (lc e13 (lc (eU (eU e8)) (lc (eU (eU e10)) lN)))))) Ent.refl
   refine un rfl (ot_buildSlice (T' := 3) (us := [vi f.n]) (.cons m0 .nil) (fun _ => by kernel_rfl)) ?_
   rintro b245
   refine x3 1 5 9 ?_ ?_ ?_
   ·refine un rfl (ot_buildSlice (T' := 3) (us := []) .nil (fun _ => by kernel_rfl)) ?_
    rintro b246
    refine at_group [5, 9, 10, 11, 12] 5 rfl (by kernel_rfl) rfl ?_
    exact yq (ld fo 17 m9 e5 rfl) (yq (ld fo 17 m7 e5 rfl) (yp (op_len m0 Tryz.underlying23) (yp (op_subI m0 .const) (yp (op_sliceH (xs := f.l) m3 Tryz.underlying23 (by kernel_rfl : _ = 1) (by omega) m0 g165 hc4) (qN (at_use (k196 b245 b246) (lc e6 (lc e0 (lc e5 (lc e17 (lc (eU (eU e12)) (lc (eU (eU e14)) lN)))))) (eP (p1 pn))))))))
   ·refine zs rfl (ld fo 17 m8 e4 rfl) ?_
    exact at_use (k228 b245) (lc e1 (lc e0 (lc e6 (lc e12 (lc (eU (eU e7)) (lc (eU (eU e9)) lN)))))) Ent.refl
   refine zs rfl (ld fo 17 m5 e4 rfl) ?_
   refine zt 10 rfl (op_len m0 Tryz.underlying23) ?_
   refine zt 11 rfl (op_subI m0 .const) ?_
   refine x2 1 5 ?_ ?_
   ·refine un rfl (ot_buildSlice (T' := 3) (us := []) .nil (fun _ => by kernel_rfl)) ?_
    rintro b247
    refine za 5 rfl (ld fo 17 m12 e5 rfl) ?_
    refine zt 12 rfl (op_sliceH (xs := f.l) m0 Tryz.underlying23 (by kernel_rfl : _ = 1) (by omega) m2 g165 hc4) ?_
    exact at_use (k196 b245 b247) (lc e6 (lc e0 (lc e2 (lc e17 (lc (eU (eU e12)) (lc (eU (eU e14)) lN)))))) (eP (p1 pn))
   refine zs rfl (ld fo 17 m11 e4 rfl) ?_
   refine zt 12 rfl (op_sliceH (xs := f.l) m0 Tryz.underlying23 (by kernel_rfl : _ = 1) (by omega) m1 g165 hc4) ?_
   refine tn 1 rfl (ot_buildSlice (T' := 3) (us := []) .nil (fun _ => by kernel_rfl)) ?_
   rintro b248
   exact at_use (k196 b245 b248) (lc e6 (lc e1 (lc e0 (lc e17 (lc (eU (eU e12)) (lc (eU (eU e14)) lN)))))) (eP (p1 pn))
  refine cR (zp (mv m1) (zp (nc m0) (zp (fd 1 (fo + 1) m0) (rz (st1 fo w1 m0 .const t2) (rN (tB (tT (q2 (zp bz (rz (sta 0 m4 m0 t3) (q4 (pkE (p1 pn) (et_se (ro_of_ints (enc := encInt) (fun _ => rfl) (by simp <;> omega)) ?_)))))))))))))
  refine pkE (p2 pn) (tE (it_shut (enc := frC) (lst := FrV.l) (x := ({ f with line := 1, l := (([] ++ (f.l.take ((wi (((f.l.length : Nat) : Int) - 1))).toNat)) ++ [f.n]) } : FrV)) (A := A171) (c := c171) (by simp [frC])) ?_)
  obtain rfl := sI hs
  exact fa e4 e2 (d1 (eP (p2 (p2 (p2 (p2 (p1 (p1 pn))))))))
 refine cK (tB (tT (q2 (zp bz (rz (sta 0 (mU m13) m0 t5) (q4 (pkE (p1 pn) (tE ro_dup (pkE (p2 pn) (sr (at_ recs r2) ?_))))))))))
 refine pkE (p0 (p1 pn)) (tE (unfocus (xs := recs) (by have := g5; omega)) ?_)
 rw [set_at g5]
 refine pkE (p3 pn) (tE ro_dup (pkE (p4 pn) (sf f ?_)))
 obtain rfl := sI hs
 exact fa (eU e13) e4 (d3 (eP (p1 (p2 (p2 (p2 (p2 (p2 (p1 (p1 pn))))))))))
end Go.Proofs.YtpbkelpokpglaaaGreat
