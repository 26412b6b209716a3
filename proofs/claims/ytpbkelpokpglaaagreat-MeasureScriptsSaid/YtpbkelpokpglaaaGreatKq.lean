/- The reference, function by function: running. -/
import Derived.Test.YtpbkelpokpglaaaGreatKm
import Derived.Test.YtpbkelpokpglaaaGreatKk
import Derived.Test.YtpbkelpokpglaaaGreatRows
set_option linter.all false
namespace Go.Proofs.YtpbkelpokpglaaaGreat
open Go Go.RowKit
set_option maxRecDepth 100000
set_option maxHeartbeats 2000000
variable {c : Cfg} {m : MemV} {now draw : Int} {recs : List RecV} {evs : List Ev} {f : FrV}
def r8finish_s (c : Cfg) (m : MemV) (recs : List RecV) (evs : List Ev) (f : FrV) (t : Int) : Option (ResV × MemV × (List Ev) × FrV) :=
 if f.line = 17 then
  bT (estore_s m (r6state_s c t) 4) fun r4 =>
  some ((⟨false, 0, 0⟩ : ResV), r4, evs, ({ f with line := 18 } : FrV))
 else
 if f.line = 18 then
  bT (ecas_s m (r6join_s c t) 0 4294967296) fun r6 =>
  (eemit_s evs 10 f.a t 0 0).bind fun r7 =>
  if r6.1 = true then
   (r8leave_s f).bind fun r9 =>
   some (r9.1, r6.2, r7, r9.2)
  else
  some ((⟨false, 0, 0⟩ : ResV), r6.2, r7, ({ f with line := 19 } : FrV))
 else
 bT (eload_s m (r6join_s c t)) fun r10 =>
 if (!(etask_s c recs (wi (wu (r10.1 - 1))))) = true then
  (r8leave_s ({ f with n := (wi (wu (r10.1 - 1))) } : FrV)).bind fun r12 =>
  some (r12.1, r10.2, evs, r12.2)
 else
 some ((⟨false, 0, 0⟩ : ResV), r10.2, evs, ({ f with line := 20, n := (wi (wu (r10.1 - 1))) } : FrV))
theorem r8finish_ok {t : Int} {o : ResV × MemV × (List Ev) × FrV} (hs : r8finish_s c m recs evs f t = some o) (eb : Nat) (l : CfgAt) (RA : Option Addr) (RC : Nat) (fb fo : Nat)  (B : Nat) (W : World)  : Fn_ Tryz.prog 179 #[vp eb 0, vp fb fo, vi t] B W [cP eb c l, memS eb 11 m, pts eb 19 [.slice RA recs.length RC], evsS eb 20 evs, frS fb fo f] (X := Unit) (fun x => .agg #[.bool (o.1.done), vi o.1.code, vi o.1.value]) (fun x => [cP eb c l, memS eb 11 o.2.1, pts eb 19 [.slice RA recs.length RC], evsS eb 20 o.2.2.1, frS fb fo o.2.2.2]) := by
 unfold r8finish_s at hs
 refine fe3 Tryz.func179 76 rfl (fun F => ?_)
 refine q2 (rn (al [.bool false, zi, zi]) ?_)
 rintro b1
 refine q1 (cS (cS (ct_open pick5 ?_)))
 rintro ⟨A2, c2⟩
 refine cR (zp (mv m2) (zp (nc m0) (zp (fd 1 (fo + 1) m0) (zq (ld fo 1 m0 e0 rfl) (q1 (cB (q2 (zp (eqL m0 .const) (zp (asg m0) (q1 (ci hs m0 (fun h3 hs => ?_) (fun h3 hs => ?_))))))))))))
 ·refine q2 (zp (mv m7) (zp (mv m8) (zp (nc m0) (zp (fd 0 0 m0) (zq (lda 0 m0 e3) (zp (mv m14) (zq (cq (.cons m1 (.cons m0 .nil)) (r6state_ok (o := r6state_s c t) rfl l _ _) pn) ?_)))))))
  obtain ⟨r4, hr4, hs⟩ := bF hs
  refine ru (co (.cons m6 (.cons m0 (.cons .const .nil))) (estore_ok hr4 eb _ _) (p4 pn)) (q3 (zp (mv m16) (zp (nc m0) (zp (fd 1 (fo + 1) m0) (rz (st1 fo w1 m0 .const t1) (q3 (zp bz (rz (sta 0 m18 m0 t3) (q4 (bR (tR (pkE (p2 pn) (tE ro_dup (pkE (p3 pn) (sf ({ f with line := 18 } : FrV) ?_)))))))))))))))
  obtain rfl := sI hs
  exact fa e18 e3 (d2 (eP (p1 (p2 (p2 (p1 (p1 (p1 pn))))))))
 refine q2 (zp (eqL m2 .const) (zp (asg m0) (q1 (ci hs m0 (fun h5 hs => ?_) (fun h5 hs => ?_)))))
 ·refine q2 (zp (mv m9) (zp (mv m10) (zp (nc m0) (zp (fd 0 0 m0) (zq (lda 0 m0 e3) (zp (mv m16) (zq (cq (.cons m1 (.cons m0 .nil)) (r6join_ok (o := r6join_s c t) rfl l _ _) pn) ?_)))))))
  obtain ⟨r6, hr6, hs⟩ := bF hs
  refine ru (co (.cons m6 (.cons m0 (.cons .const (.cons .const .nil)))) (ecas_ok hr6 eb _ _) (p4 pn)) (zp (asg m0) (q3 (zp (mv m18) (zp (mv (mU m0)) (zp (nc m0) (zp (fd 6 (fo + 6) m0) (zq (ld fo 6 m0 e1 rfl) (zp (mv (mU m5)) ?_))))))))
  obtain ⟨r7, hr7, hs⟩ := bO_of hs
  refine ru (co (.cons m5 (.cons .const (.cons m1 (.cons m0 (.cons .const (.cons .const .nil)))))) (eemit_ok hr7 eb _ _) (p6 pn)) (q1 (cS (q2 (zp (mv m7) (q1 (cj hs m0 (fun h8 hs => ?_) (fun h8 hs => ?_)))))))
  ·refine q2 (zp (mv (mU m7)) (pkR (p3 pn) (rE ro_dup (pkR (p4 pn) (rE (shut (N := itN frC FrV.l fb fo f) (A2, c2) rfl) ?_)))))
   obtain ⟨r9, hr9, hs⟩ := bO_of hs
   refine ru (co (.cons m0 .nil) (r8leave_ok hr9 fb fo _ _) (p0 pn)) (rz (sta 0 (mU m7) m0 t4) (q4 (tR (bR (tR ?_)))))
   obtain rfl := sI hs
   exact fa (eU e7) e4 (d2 (eP (p1 (p3 (p3 (p2 (p2 (p1 pn))))))))
  refine cK (tT (q2 (zp (mv (mU m7)) (zp (nc m0) (zp (fd 1 (fo + 1) m0) (rz (st1 fo w1 m0 .const t2) (q3 (zp bz (rz (sta 0 (mU m9) m0 t4) (q4 (bR (tR (pkE (p3 pn) (tE ro_dup (pkE (p4 pn) (sf ({ f with line := 19 } : FrV) ?_))))))))))))))))
  obtain rfl := sI hs
  exact fa (eU e9) e4 (d2 (eP (p1 (p3 (p3 (p2 (p2 (p1 pn))))))))
 refine cK (tB (tT (q2 (zp (mv m10) (zp (mv m10) (zp (mv m11) (zp (nc m0) (zp (fd 0 0 m0) (zq (lda 0 m0 e3) (zp (mv m17) (zq (cq (.cons m1 (.cons m0 .nil)) (r6join_ok (o := r6join_s c t) rfl l _ _) pn) ?_)))))))))))
 obtain ⟨r10, hr10, hs⟩ := bF hs
 refine ru (co (.cons m6 (.cons m0 .nil)) (eload_ok hr10 eb _ _) (p4 pn)) (zp (op_subU m0 .const) (zp (op_convI m0 Tryz.underlying50 Tryz.underlying3) (zp (nc m10) (zp (fd 11 (fo + 11) m0) (rz (st1 fo w11 m0 m2 t1) (q1 (cS (q2 (zp (mv (mU m2)) (zp (mv (mU m4)) (zp (nc m0) (zp (fd 11 (fo + 11) m0) (zq (ld fo 11 m0 e1 rfl) (zq (cq (.cons m4 (.cons m0 .nil)) (etask_ok (o := etask_s c recs (wi (wu (r10.1 - 1)))) rfl eb l RA RC _ _) (p4 (p4 pn))) (zp (op_notb m0) (q1 (cj hs m0 (fun h11 hs => ?_) (fun h11 hs => ?_))))))))))))))))))
 ·refine q2 (zp (mv (mU m10)) (pkR (p2 pn) (rE ro_dup (pkR (p3 pn) (rE (shut (N := itN frC FrV.l fb fo ({ f with n := (wi (wu (r10.1 - 1))) } : FrV)) (A2, c2) rfl) ?_)))))
  obtain ⟨r12, hr12, hs⟩ := bO_of hs
  refine ru (co (.cons m0 .nil) (r8leave_ok hr12 fb fo _ _) (p0 pn)) (rz (sta 0 (mU m10) m0 t3) (q4 (tR ?_)))
  obtain rfl := sI hs
  exact fa (eU e10) e3 (d2 (eP (p1 (p2 (p2 (p1 (p1 (p1 pn))))))))
 refine cK (tT (q2 (zp (mv (mU m10)) (zp (nc m0) (zp (fd 1 (fo + 1) m0) (rz (st1 fo w1 m0 .const t1) (q3 (zp bz (rz (sta 0 (mU m12) m0 t3) (q4 (pkE (p2 pn) (tE ro_dup (pkE (p3 pn) (sf ({ f with line := 20, n := (wi (wu (r10.1 - 1))) } : FrV) ?_))))))))))))))
 obtain rfl := sI hs
 exact fa (eU e12) e3 (d2 (eP (p1 (p2 (p2 (p1 (p1 (p1 pn))))))))
def r8run_s (c : Cfg) (m : MemV) (recs : List RecV) (evs : List Ev) (f : FrV) : Option (ResV × MemV × (List RecV) × (List Ev) × FrV) :=
 (r8top_s f).bind fun r2 =>
 if f.line = 23 then
  some ((r8end_s 4 0), m, recs, evs, f)
 else
 if 0 ≤ r2 ∧ r2 < (recs.length : Int) then
 if f.line = 2 then
  bT (estore_s m (r6waits_s c r2) 0) fun r10 =>
  some ((⟨false, 0, 0⟩ : ResV), r10, (st_ recs r2 ({ (at_ recs r2) with waiting := (-1) } : RecV)), evs, ({ f with line := 1 } : FrV))
 else
 if f.line = 3 then
  if (at_ recs r2).left = 0 then
   (eprogram_s c recs r2).bind fun r13 =>
   if 0 ≤ (at_ recs r2).pc ∧ (at_ recs r2).pc < (r13.length : Int) then
   if (wi ((at_ (st_ recs r2 ({ (at_ recs r2) with left := (at_ r13 ((at_ recs r2).pc)).a } : RecV)) r2).left - 1)) = 0 then
    some ((⟨false, 0, 0⟩ : ResV), m, (st_ (st_ recs r2 ({ (at_ recs r2) with left := (at_ r13 ((at_ recs r2).pc)).a } : RecV)) r2 ({ (at_ (st_ recs r2 ({ (at_ recs r2) with left := (at_ r13 ((at_ recs r2).pc)).a } : RecV)) r2) with pc := (wi ((at_ (st_ recs r2 ({ (at_ recs r2) with left := (at_ r13 ((at_ recs r2).pc)).a } : RecV)) r2).pc + 1)), left := (wi ((at_ (st_ recs r2 ({ (at_ recs r2) with left := (at_ r13 ((at_ recs r2).pc)).a } : RecV)) r2).left - 1)) } : RecV)), evs, ({ f with line := 1 } : FrV))
   else
   some ((⟨false, 0, 0⟩ : ResV), m, (st_ (st_ recs r2 ({ (at_ recs r2) with left := (at_ r13 ((at_ recs r2).pc)).a } : RecV)) r2 ({ (at_ (st_ recs r2 ({ (at_ recs r2) with left := (at_ r13 ((at_ recs r2).pc)).a } : RecV)) r2) with left := (wi ((at_ (st_ recs r2 ({ (at_ recs r2) with left := (at_ r13 ((at_ recs r2).pc)).a } : RecV)) r2).left - 1)) } : RecV)), evs, ({ f with line := 1 } : FrV))
   else none
  else
  if (wi ((at_ recs r2).left - 1)) = 0 then
   some ((⟨false, 0, 0⟩ : ResV), m, (st_ recs r2 ({ (at_ recs r2) with pc := (wi ((at_ recs r2).pc + 1)), left := (wi ((at_ recs r2).left - 1)) } : RecV)), evs, ({ f with line := 1 } : FrV))
  else
  some ((⟨false, 0, 0⟩ : ResV), m, (st_ recs r2 ({ (at_ recs r2) with left := (wi ((at_ recs r2).left - 1)) } : RecV)), evs, ({ f with line := 1 } : FrV))
 else
 if f.line = 4 then
  some ((⟨false, 0, 0⟩ : ResV), m, (st_ recs r2 ({ (at_ recs r2) with pc := (wi ((at_ recs r2).pc + 1)) } : RecV)), evs, ({ f with line := 1 } : FrV))
 else
 if f.line = 10 then
  bT (estore_s m (r6waits_s c r2) (wu (wi (f.j + 1)))) fun r40 =>
  some ((⟨false, 0, 0⟩ : ResV), r40, (st_ recs r2 ({ (at_ recs r2) with pc := (wi ((at_ recs r2).pc + 1)), waiting := f.j } : RecV)), evs, ({ f with line := 11 } : FrV))
 else
 if f.line = 11 then
  bT (estore_s m (r6state_s c r2) 3) fun r42 =>
  some ((⟨false, 0, 0⟩ : ResV), r42, recs, evs, ({ f with line := 12 } : FrV))
 else
 if f.line = 12 then
  bT (ecas_s m (r6join_s c f.j) 0 (wu (wi (r2 + 1)))) fun r44 =>
  if r44.1 = true then
   (eemit_s evs 6 f.a r2 f.j 0).bind fun r46 =>
   some ((⟨false, 0, 0⟩ : ResV), r44.2, recs, r46, ({ f with line := 13 } : FrV))
  else
  some ((⟨false, 0, 0⟩ : ResV), r44.2, recs, evs, ({ f with line := 15 } : FrV))
 else
 if f.line = 13 then
  bT (eload_s m (r6level_s c r2)) fun r48 =>
  some ((⟨false, 0, 0⟩ : ResV), r48.2, recs, evs, ({ f with line := 14, t := (wi r48.1) } : FrV))
 else
 if f.line = 15 then
  bT (estore_s m (r6state_s c r2) 2) fun r50 =>
  some ((⟨false, 0, 0⟩ : ResV), r50, recs, evs, ({ f with line := 16 } : FrV))
 else
 if f.line = 16 then
  bT (estore_s m (r6waits_s c r2) 0) fun r52 =>
  (eemit_s evs 8 f.a r2 f.j 0).bind fun r53 =>
  some ((⟨false, 0, 0⟩ : ResV), r52, (st_ recs r2 ({ (at_ recs r2) with waiting := (-1) } : RecV)), r53, ({ f with line := 1 } : FrV))
 else
 (r8finish_s c m recs evs f r2).bind fun r54 =>
 some (r54.1, r54.2.1, recs, r54.2.2.1, r54.2.2.2)
 else none
theorem r8run_ok {o : ResV × MemV × (List RecV) × (List Ev) × FrV} (hs : r8run_s c m recs evs f = some o) (eb : Nat) (l : CfgAt) (pl : List (Option Addr × Nat)) (RA : Option Addr) (RC : Nat) (fb fo : Nat)  (B : Nat) (W : World)  : Fn_ Tryz.prog 138 #[vp eb 0, vp fb fo] B W [cP eb c l, cfgL c l pl, memS eb 11 m, pts eb 19 [.slice RA recs.length RC], recsS RA RC recs, evsS eb 20 evs, frS fb fo f] (X := Unit) (fun x => .agg #[.bool (o.1.done), vi o.1.code, vi o.1.value]) (fun x => [cP eb c l, cfgL c l pl, memS eb 11 o.2.1, pts eb 19 [.slice RA o.2.2.1.length RC], recsS RA RC o.2.2.1, evsS eb 20 o.2.2.2.1, frS fb fo o.2.2.2.2]) := by
 unfold r8run_s at hs
 refine fe2 Tryz.func138 211 rfl (fun F => ?_)
 refine q2 (rn (al [.bool false, zi, zi]) ?_)
 rintro b1
 refine q3 (zp (mv m2) ?_)
 obtain ⟨r2, hr2, hs⟩ := bO_of hs
 refine zq (cq (.cons m0 .nil) (r8top_ok hr2 fb fo _ _) (p7 pn)) (zp (asg m0) (q1 (cS (cS (ct_open pick7 ?_)))))
 rintro ⟨A3, c3⟩
 refine cR (zp (mv m5) (zp (nc m0) (zp (fd 1 (fo + 1) m0) (zq (ld fo 1 m0 e0 rfl) (zp (eqL m0 .const) (q1 (ci hs m0 (fun h4 hs => ?_) (fun h4 hs => ?_))))))))
 ·refine q2 (zq (cq (.cons .const (.cons .const .nil)) (r8end_ok (o := r8end_s 4 0) rfl  _ _) pn) (rz (sta 0 m9 m0 t2) (q4 (tR (pkE (p1 pn) (tE ro_dup (pkE (p2 pn) (sf f ?_))))))))
  obtain rfl := sI hs
  exact fa e9 e2 (d2 (eP (p1 (p1 (p1 (p1 (p1 (p1 (p1 (p1 pn))))))))))
 refine cK (tT (q2 (zp (mv m9) (zp (nc m0) (zp (fd 19 19 m0) (zq (ld 19 0 m0 e6 rfl) (zp (mv m9) ?_)))))))
 obtain ⟨g5, hs⟩ := gO hs
 refine rt_focus (r2).toNat pick7 (by omega) (fun rb6 ro6 hA7 => ?_)
 subst hA7
 rw [at_eq (by omega)]
 refine rt_open pick0 ?_
 rintro ⟨A8, c8⟩
 refine zp (op_index (i := (r2).toNat) (o' := ro6 + (r2).toNat * 7) m1 m0 (by omega) (by omega) (by kernel_rfl) rfl) (zp (asg m0) (q3 (zp (asg .const) (q1 (cS (q2 (zp (mv m18) (zp (nc m0) (zp (fd 1 (fo + 1) m0) (zq (ld fo 1 m0 e3 rfl) (q1 (cB (q2 (zp (eqL m0 .const) (zp (asg m0) (q1 (ci hs m0 (fun h9 hs => ?_) (fun h9 hs => ?_))))))))))))))))))
 ·refine q2 (zp (mv (mU m3)) (zp (mv (mU m4)) (zp (nc m0) (zp (fd 0 0 m0) (zq (lda 0 m0 e6) (zp (mv (mU m4)) (zq (cq (.cons m1 (.cons m0 .nil)) (r6waits_ok (o := r6waits_s c r2) rfl l _ _) pn) ?_)))))))
  obtain ⟨r10, hr10, hs⟩ := bF hs
  refine ru (co (.cons m6 (.cons m0 (.cons .const .nil))) (estore_ok hr10 eb _ _) (p8 pn)) (q1 (cR (zp (mv m15) (zp (nc m0) (zp (fd 4 (ro6 + (r2).toNat * 7 + 4) m0) (rz (st1 (ro6 + (r2).toNat * 7) w4 m0 .const t1) (rN (tB (tT (q2 (zp (mv (mU m15)) (zp (mv m18) (zp (nc m1) (zp (fd 1 (fo + 1) m0) (rz (st1 fo w1 m0 m2 t4) (q3 (zp bz (rz (sta 0 (mU m18) m0 t6) (q4 (pkE (p2 pn) (tE ro_dup (pkE (p3 pn) (sr ({ (at_ recs r2) with waiting := (-1) } : RecV) ?_)))))))))))))))))))))))
  refine pkE (p0 (p2 pn)) (tE (unfocus_st (xs := recs) (by have := g5; omega)) (pkE (p8 pn) (tE (ent_rs (m' := (st_ recs r2 ({ (at_ recs r2) with waiting := (-1) } : RecV)).length) (by simp [st_])) (pkE (p5 pn) (tE ro_dup (pkE (p6 pn) (sf ({ f with line := 1 } : FrV) ?_)))))))
  obtain rfl := sI hs
  exact fa (eU e18) e6 (d3 (eP (p1 (p3 (p4 (p4 (p4 (p3 (p1 (p1 (p1 pn)))))))))))
 refine q2 (zp (eqL m2 .const) (zp (asg m0) (q1 (ci hs m0 (fun h11 hs => ?_) (fun h11 hs => ?_)))))
 ·refine cS (q2 (zp (mv m9) (zp (nc m0) (zp (fd 3 (ro6 + (r2).toNat * 7 + 3) m0) (zq (ld (ro6 + (r2).toNat * 7) 3 m0 e0 rfl) (zp (eqL m0 .const) (q1 (ci hs m0 (fun h12 hs => ?_) (fun h12 hs => ?_)))))))))
  ·obtain ⟨r13, hr13, hs⟩ := bO_of hs
   obtain ⟨g14, hs⟩ := gO hs
   refine ct_cutG (S := Unit) (G := Unit) (fun _ => True) (fun _ _ => [(7, vi 1), (6, vp rb6 (ro6 + (r2).toNat * 7)), (4, vp b1 0), (1, vp fb fo)]) (fun _ _ => pts eb 19 [.slice (some ⟨rb6, ro6, none⟩) ((st_ recs r2 ({ (at_ recs r2) with left := (at_ r13 ((at_ recs r2).pc)).a } : RecV)).length) RC] :: recsS (some ⟨rb6, ro6, none⟩) RC (st_ recs r2 ({ (at_ recs r2) with left := (at_ r13 ((at_ recs r2).pc)).a } : RecV)) :: cP eb c l :: cfgL c l pl :: pts fb fo [vi f.kind, vi f.line, vi f.q.top, vi f.q.bottom, vi f.q.ring, vi f.q.cap, vi f.a, vi f.b, vi f.d, vi f.i, vi f.j, vi f.n, vi f.t, vu f.u, vu f.v, vu f.w, vu f.x, .slice A3 f.l.length c3] :: roS encInt 1 A3 c3 f.l :: pts b1 0 [.bool false, zi, zi] :: memS eb 11 m :: evsS eb 20 evs :: [F]) ?_ (fun _ _ _ => (?_ : CT _ _ _ _ _ _ _ _ _))
   ·refine ca 14 ?_
    refine zt 0 rfl (mv m14) ?_
    refine zt 1 rfl (mv (mU m11)) ?_
    refine zt 2 rfl (mv (mU m8)) ?_
    refine zt 4 rfl (mv m17) ?_
    refine zt 5 rfl (nc m0) ?_
    refine zt 6 rfl (fd 2 (ro6 + (r2).toNat * 7 + 2) m0) ?_
    refine x2 3 7 ?_ ?_
    ·refine uE (Ent.picks (p1 .nil)) (uE ro_dup (uE (Ent.picks (p2 (p0 .nil))) (uE (it_shut (enc := recC) (lst := RecV.kids) (x := (at_ recs r2)) (A := A8) (c := c8) (by simp [recC])) (uE (Ent.picks (p0 (p1 .nil))) (uE (unfocus (xs := recs) (by have := g5; omega)) ?_)))))
     rw [set_at g5]
     refine un rfl (co (.cons m4 (.cons m3 .nil)) (eprogram_ok hr13 eb l pl (some ⟨rb6, ro6, none⟩) RC _ _) (p5 (p5 (p6 (p0 pn))))) ?_
     rintro ⟨A24, c24⟩
     refine at_focus (r2).toNat pick4 (by omega) (fun rb25 ro25 hA26 => ?_)
     obtain ⟨rb25e, ro25e⟩ := addr_inj hA26
     subst rb25e ro25e
     rw [at_eq (by omega)]
     refine at_open pick0 ?_
     rintro ⟨A27, c27⟩
     refine za 7 rfl (ld (ro6 + (r2).toNat * 7) 2 m1 e0 rfl) ?_
     refine za 8 rfl (oq_indexD (enc := Ins.enc) (sz' := 3) (sz := 3) (xs := r13) m1 m0 (rd_rd e3) g14 rfl (by kernel_rfl) rfl) ?_
     refine za 9 rfl (oq_fieldD (enc := Ins.enc) (sz := 3) (xs := r13) (k := 1) m0 (rd_rd e3) (by omega) (by kernel_rfl) rfl) ?_
     refine za 10 rfl (oq_loadD1 (enc := Ins.enc) (sz := 3) (i := ((at_ recs r2).pc).toNat) (j := 1) (xs := r13) m0 (rd_rd e3) (at_get g14) rfl (by omega) (by kernel_rfl)) ?_
     refine zt 11 rfl (nc m10) ?_
     refine zt 12 rfl (fd 3 (ro6 + (r2).toNat * 7 + 3) m0) ?_
     refine tz 13 rfl (st1 (ro6 + (r2).toNat * 7) w3 m0 m2 t0) ?_
     refine zz ?_
     refine pkE (p1 pn) (tE ro_dup (pkE (p2 pn) (sr ({ (at_ recs r2) with left := (at_ r13 ((at_ recs r2).pc)).a } : RecV) ?_)))
     exact pkE (p0 (p1 pn)) (tE (unfocus_st (xs := recs) (by have := g5; omega)) (pkE (p5 pn) (tE (ent_rs (m' := (st_ recs r2 ({ (at_ recs r2) with left := (at_ r13 ((at_ recs r2).pc)).a } : RecV)).length) (by simp [st_])) (aK () () trivial (lc (eU e6) (lc (eU e7) (lc (eU (eU e2)) (lc (eU (eU e4)) lN)))) (d3 (eP (p2 (p2 (p4 pn)))))))))
    refine zs rfl (ld (ro6 + (r2).toNat * 7) 2 m0 e0 rfl) ?_
    refine pkA (p1 pn) (aE ro_dup (pkA (p2 pn) (aE (it_shut (enc := recC) (lst := RecV.kids) (x := (at_ recs r2)) (A := A8) (c := c8) (by simp [recC])) (pkA (p0 (p1 pn)) (aE (unfocus (xs := recs) (by have := g5; omega)) ?_)))))
    rw [set_at g5]
    refine tn 3 rfl (co (.cons m5 (.cons m4 .nil)) (eprogram_ok hr13 eb l pl (some ⟨rb6, ro6, none⟩) RC _ _) (p5 (p5 (p6 (p0 pn))))) ?_
    rintro ⟨A28, c28⟩
    refine za 8 rfl (oq_indexD (enc := Ins.enc) (sz' := 3) (sz := 3) (xs := r13) m0 m1 (rd_rd e0) g14 rfl (by kernel_rfl) rfl) ?_
    refine za 9 rfl (oq_fieldD (enc := Ins.enc) (sz := 3) (xs := r13) (k := 1) m0 (rd_rd e0) (by omega) (by kernel_rfl) rfl) ?_
    refine za 10 rfl (oq_loadD1 (enc := Ins.enc) (sz := 3) (i := ((at_ recs r2).pc).toNat) (j := 1) (xs := r13) m0 (rd_rd e0) (at_get g14) rfl (by omega) (by kernel_rfl)) ?_
    refine zt 11 rfl (nc m10) ?_
    refine zt 12 rfl (fd 3 (ro6 + (r2).toNat * 7 + 3) m0) ?_
    refine at_focus (r2).toNat pick4 (by omega) (fun rb29 ro29 hA30 => ?_)
    obtain ⟨rb29e, ro29e⟩ := addr_inj hA30
    subst rb29e ro29e
    rw [at_eq (by omega)]
    refine at_open pick0 ?_
    rintro ⟨A31, c31⟩
    refine tz 13 rfl (st1 (ro6 + (r2).toNat * 7) w3 m0 m2 t0) ?_
    refine zz ?_
    refine pkE (p1 pn) (tE ro_dup (pkE (p2 pn) (sr ({ (at_ recs r2) with left := (at_ r13 ((at_ recs r2).pc)).a } : RecV) ?_)))
    exact pkE (p0 (p1 pn)) (tE (unfocus_st (xs := recs) (by have := g5; omega)) (pkE (p5 pn) (tE (ent_rs (m' := (st_ recs r2 ({ (at_ recs r2) with left := (at_ r13 ((at_ recs r2).pc)).a } : RecV)).length) (by simp [st_])) (aK () () trivial (lc (eU e6) (lc (eU e7) (lc (eU (eU e2)) (lc (eU (eU e4)) lN)))) (d3 (eP (p2 (p2 (p4 pn)))))))))
   refine q2 (zp (mv m1) (zp (nc m0) (zp (fd 3 (ro6 + (r2).toNat * 7 + 3) m0) ?_)))
   have g32 : 0 ≤ r2 ∧ r2 < ((st_ recs r2 ({ (at_ recs r2) with left := (at_ r13 ((at_ recs r2).pc)).a } : RecV)).length : Int) := by simpa [st_] using g5
   refine rt_focus (r2).toNat pick1 (by omega) (fun rb33 ro33 hA34 => ?_)
   obtain ⟨rb33e, ro33e⟩ := addr_inj hA34
   subst rb33e ro33e
   rw [at_eq (by omega)]
   refine rt_open pick0 ?_
   rintro ⟨A35, c35⟩
   refine zq (ld (ro6 + (r2).toNat * 7) 3 m0 e0 rfl) (zp (op_subI m0 .const) (zp (nc m4) (zp (fd 3 (ro6 + (r2).toNat * 7 + 3) m0) (rz (st1 (ro6 + (r2).toNat * 7) w3 m0 m2 t0) (q3 (zp (mv m8) (zp (nc m0) (zp (fd 3 (ro6 + (r2).toNat * 7 + 3) m0) (zq (ld (ro6 + (r2).toNat * 7) 3 m0 e0 rfl) (zp (eqL m0 .const) (q1 (ci hs m0 (fun h36 hs => ?_) (fun h36 hs => ?_)))))))))))))
   ·refine cR (zp (mv m13) (zp (nc m0) (zp (fd 2 (ro6 + (r2).toNat * 7 + 2) m0) (zq (ld (ro6 + (r2).toNat * 7) 2 m0 e0 rfl) (zp (aI m0 .const) (zp (nc m4) (zp (fd 2 (ro6 + (r2).toNat * 7 + 2) m0) (rz (st1 (ro6 + (r2).toNat * 7) w2 m0 m2 t0) (rN (tB (tT (q2 (zp (mv (mU m2)) (zp (mv (mU m0)) (zp (nc m1) (zp (fd 1 (fo + 1) m0) (rz (st1 fo w1 m0 m2 t6) (q3 (zp bz (rz (sta 0 (mU m6) m0 t8) (q4 (pkE (p1 pn) (tE ro_dup (pkE (p2 pn) (sr ({ (at_ (st_ recs r2 ({ (at_ recs r2) with left := (at_ r13 ((at_ recs r2).pc)).a } : RecV)) r2) with pc := (wi ((at_ (st_ recs r2 ({ (at_ recs r2) with left := (at_ r13 ((at_ recs r2).pc)).a } : RecV)) r2).pc + 1)), left := (wi ((at_ (st_ recs r2 ({ (at_ recs r2) with left := (at_ r13 ((at_ recs r2).pc)).a } : RecV)) r2).left - 1)) } : RecV) ?_)))))))))))))))))))))))))
    refine pkE (p0 (p1 pn)) (tE (unfocus_st (xs := (st_ recs r2 ({ (at_ recs r2) with left := (at_ r13 ((at_ recs r2).pc)).a } : RecV))) (by have := g32; omega)) (pkE (p2 pn) (tE (ent_rs (m' := (st_ (st_ recs r2 ({ (at_ recs r2) with left := (at_ r13 ((at_ recs r2).pc)).a } : RecV)) r2 ({ (at_ (st_ recs r2 ({ (at_ recs r2) with left := (at_ r13 ((at_ recs r2).pc)).a } : RecV)) r2) with pc := (wi ((at_ (st_ recs r2 ({ (at_ recs r2) with left := (at_ r13 ((at_ recs r2).pc)).a } : RecV)) r2).pc + 1)), left := (wi ((at_ (st_ recs r2 ({ (at_ recs r2) with left := (at_ r13 ((at_ recs r2).pc)).a } : RecV)) r2).left - 1)) } : RecV)).length) (by simp [st_])) (pkE (p6 pn) (tE ro_dup (pkE (p7 pn) (sf ({ f with line := 1 } : FrV) ?_)))))))
    obtain rfl := sI hs
    exact fa (eU e6) e7 (d3 (eP (p1 (p3 (p5 (p3 (p3 (p3 (p1 (p1 (p1 pn)))))))))))
   refine cK (tB (tT (q2 (zp (mv m15) (zp (mv m13) (zp (nc m1) (zp (fd 1 (fo + 1) m0) (rz (st1 fo w1 m0 m2 t6) (q3 (zp bz (rz (sta 0 m19 m0 t8) (q4 (pkE (p1 pn) (tE ro_dup (pkE (p2 pn) (sr ({ (at_ (st_ recs r2 ({ (at_ recs r2) with left := (at_ r13 ((at_ recs r2).pc)).a } : RecV)) r2) with left := (wi ((at_ (st_ recs r2 ({ (at_ recs r2) with left := (at_ r13 ((at_ recs r2).pc)).a } : RecV)) r2).left - 1)) } : RecV) ?_))))))))))))))))
   refine pkE (p0 (p1 pn)) (tE (unfocus_st (xs := (st_ recs r2 ({ (at_ recs r2) with left := (at_ r13 ((at_ recs r2).pc)).a } : RecV))) (by have := g32; omega)) (pkE (p2 pn) (tE (ent_rs (m' := (st_ (st_ recs r2 ({ (at_ recs r2) with left := (at_ r13 ((at_ recs r2).pc)).a } : RecV)) r2 ({ (at_ (st_ recs r2 ({ (at_ recs r2) with left := (at_ r13 ((at_ recs r2).pc)).a } : RecV)) r2) with left := (wi ((at_ (st_ recs r2 ({ (at_ recs r2) with left := (at_ r13 ((at_ recs r2).pc)).a } : RecV)) r2).left - 1)) } : RecV)).length) (by simp [st_])) (pkE (p6 pn) (tE ro_dup (pkE (p7 pn) (sf ({ f with line := 1 } : FrV) ?_)))))))
   obtain rfl := sI hs
   exact fa e19 e7 (d3 (eP (p1 (p3 (p5 (p3 (p3 (p3 (p1 (p1 (p1 pn)))))))))))
  refine cK (tT (q2 (zp (mv m14) (zp (nc m0) (zp (fd 3 (ro6 + (r2).toNat * 7 + 3) m0) (zq (ld (ro6 + (r2).toNat * 7) 3 m0 e0 rfl) (zp (op_subI m0 .const) (zp (nc m4) (zp (fd 3 (ro6 + (r2).toNat * 7 + 3) m0) (rz (st1 (ro6 + (r2).toNat * 7) w3 m0 m2 t0) (q3 (zp (mv (mU m1)) (zp (nc m0) (zp (fd 3 (ro6 + (r2).toNat * 7 + 3) m0) (zq (ld (ro6 + (r2).toNat * 7) 3 m0 e0 rfl) (zp (eqL m0 .const) (q1 (ci hs m0 (fun h37 hs => ?_) (fun h37 hs => ?_)))))))))))))))))))
  ·refine cR (zp (mv (mU m6)) (zp (nc m0) (zp (fd 2 (ro6 + (r2).toNat * 7 + 2) m0) (zq (ld (ro6 + (r2).toNat * 7) 2 m0 e0 rfl) (zp (aI m0 .const) (zp (nc m4) (zp (fd 2 (ro6 + (r2).toNat * 7 + 2) m0) (rz (st1 (ro6 + (r2).toNat * 7) w2 m0 m2 t0) (rN (tB (tT (q2 (zp (mv (mU (mU m10))) (zp (mv (mU m13)) (zp (nc m1) (zp (fd 1 (fo + 1) m0) (rz (st1 fo w1 m0 m2 t3) (q3 (zp bz (rz (sta 0 (mU (mU m13)) m0 t5) (q4 (pkE (p1 pn) (tE ro_dup (pkE (p2 pn) (sr ({ (at_ recs r2) with pc := (wi ((at_ recs r2).pc + 1)), left := (wi ((at_ recs r2).left - 1)) } : RecV) ?_)))))))))))))))))))))))))
   refine pkE (p0 (p1 pn)) (tE (unfocus_st (xs := recs) (by have := g5; omega)) (pkE (p8 pn) (tE (ent_rs (m' := (st_ recs r2 ({ (at_ recs r2) with pc := (wi ((at_ recs r2).pc + 1)), left := (wi ((at_ recs r2).left - 1)) } : RecV)).length) (by simp [st_])) (pkE (p4 pn) (tE ro_dup (pkE (p5 pn) (sf ({ f with line := 1 } : FrV) ?_)))))))
   obtain rfl := sI hs
   exact fa (eU (eU e13)) e5 (d3 (eP (p1 (p3 (p3 (p3 (p3 (p3 (p1 (p1 (p1 pn)))))))))))
  refine cK (tB (tT (q2 (zp (mv (mU (mU m3))) (zp (mv (mU m6)) (zp (nc m1) (zp (fd 1 (fo + 1) m0) (rz (st1 fo w1 m0 m2 t3) (q3 (zp bz (rz (sta 0 (mU (mU m6)) m0 t5) (q4 (pkE (p1 pn) (tE ro_dup (pkE (p2 pn) (sr ({ (at_ recs r2) with left := (wi ((at_ recs r2).left - 1)) } : RecV) ?_))))))))))))))))
  refine pkE (p0 (p1 pn)) (tE (unfocus_st (xs := recs) (by have := g5; omega)) (pkE (p8 pn) (tE (ent_rs (m' := (st_ recs r2 ({ (at_ recs r2) with left := (wi ((at_ recs r2).left - 1)) } : RecV)).length) (by simp [st_])) (pkE (p4 pn) (tE ro_dup (pkE (p5 pn) (sf ({ f with line := 1 } : FrV) ?_)))))))
  obtain rfl := sI hs
  exact fa (eU (eU e6)) e5 (d3 (eP (p1 (p3 (p3 (p3 (p3 (p3 (p1 (p1 (p1 pn)))))))))))
 refine q2 (zp (eqL m4 .const) (zp (asg m0) (q1 (ci hs m0 (fun h38 hs => ?_) (fun h38 hs => ?_)))))
 ·refine cR (zp (mv m11) (zp (nc m0) (zp (fd 2 (ro6 + (r2).toNat * 7 + 2) m0) (zq (ld (ro6 + (r2).toNat * 7) 2 m0 e0 rfl) (zp (aI m0 .const) (zp (nc m4) (zp (fd 2 (ro6 + (r2).toNat * 7 + 2) m0) (rz (st1 (ro6 + (r2).toNat * 7) w2 m0 m2 t0) (rN (tB (tT (q2 (zp (mv (mU m15)) (zp (mv m18) (zp (nc m1) (zp (fd 1 (fo + 1) m0) (rz (st1 fo w1 m0 m2 t3) (q3 (zp bz (rz (sta 0 (mU m18) m0 t5) (q4 (pkE (p1 pn) (tE ro_dup (pkE (p2 pn) (sr ({ (at_ recs r2) with pc := (wi ((at_ recs r2).pc + 1)) } : RecV) ?_)))))))))))))))))))))))))
  refine pkE (p0 (p1 pn)) (tE (unfocus_st (xs := recs) (by have := g5; omega)) (pkE (p8 pn) (tE (ent_rs (m' := (st_ recs r2 ({ (at_ recs r2) with pc := (wi ((at_ recs r2).pc + 1)) } : RecV)).length) (by simp [st_])) (pkE (p4 pn) (tE ro_dup (pkE (p5 pn) (sf ({ f with line := 1 } : FrV) ?_)))))))
  obtain rfl := sI hs
  exact fa (eU e18) e5 (d3 (eP (p1 (p3 (p3 (p3 (p3 (p3 (p1 (p1 (p1 pn)))))))))))
 refine q2 (zp (eqL m6 .const) (zp (asg m0) (q1 (ci hs m0 (fun h39 hs => ?_) (fun h39 hs => ?_)))))
 ·refine cS (ca 14 ?_)
  refine zt 0 rfl (mv (mU m9)) ?_
  refine zt 1 rfl (mv (mU m10)) ?_
  refine zt 2 rfl (nc m0) ?_
  refine zt 3 rfl (fd 0 0 m0) ?_
  refine zt 5 rfl (mv (mU m9)) ?_
  refine zt 7 rfl (mv (mU m15)) ?_
  refine zt 8 rfl (nc m0) ?_
  refine zt 9 rfl (fd 10 (fo + 10) m0) ?_
  refine at_group [4, 6, 10, 11, 12] 1 rfl (by kernel_rfl) rfl ?_
  refine yq (lda 0 m4 e6) (yq (cq (.cons m0 (.cons m4 .nil)) (r6waits_ok (o := r6waits_s c r2) rfl l _ _) pn) (yq (ld fo 10 m2 e3 rfl) (yp (aI m0 .const) (yp (op_convU m0 Tryz.underlying3 Tryz.underlying50) (qN ?_)))))
  obtain ⟨r40, hr40, hs⟩ := bF hs
  refine tu 13 rfl (co (.cons m12 (.cons m3 (.cons m0 .nil))) (estore_ok hr40 eb _ _) (p8 pn)) ?_
  refine zz ?_
  refine tT (q2 (zp (mv (mU m7)) (zp (nc m0) (zp (fd 2 (ro6 + (r2).toNat * 7 + 2) m0) (zq (ld (ro6 + (r2).toNat * 7) 2 m0 e1 rfl) (zp (aI m0 .const) (zp (nc m4) (zp (fd 2 (ro6 + (r2).toNat * 7 + 2) m0) (rz (st1 (ro6 + (r2).toNat * 7) w2 m0 m2 t1) (q3 (zp (mv (mU m14)) (zp (mv (mU (mU m12))) (zp (nc m0) (zp (fd 10 (fo + 10) m0) (zq (ld fo 10 m0 e4 rfl) (zp (nc m4) (zp (fd 4 (ro6 + (r2).toNat * 7 + 4) m0) (rz (st1 (ro6 + (r2).toNat * 7) w4 m0 m2 t1) (q1 (cR (zo (asg .const) (pickU (pickU pick0)) (rN (tB (tT (q2 (zp (mv (mU (mU m18))) (zp (mv m1) (zp (nc m1) (zp (fd 1 (fo + 1) m0) (rz (st1 fo w1 m0 m2 t4) (q3 (zp bz (rz (sta 0 (mU (mU (mU m1))) m0 t6) (q4 (pkE (p2 pn) (tE ro_dup (pkE (p3 pn) (sr ({ (at_ recs r2) with pc := (wi ((at_ recs r2).pc + 1)), waiting := f.j } : RecV) ?_))))))))))))))))))))))))))))))))))))))
  refine pkE (p0 (p2 pn)) (tE (unfocus_st (xs := recs) (by have := g5; omega)) (pkE (p8 pn) (tE (ent_rs (m' := (st_ recs r2 ({ (at_ recs r2) with pc := (wi ((at_ recs r2).pc + 1)), waiting := f.j } : RecV)).length) (by simp [st_])) (pkE (p5 pn) (tE ro_dup (pkE (p6 pn) (sf ({ f with line := 11 } : FrV) ?_)))))))
  obtain rfl := sI hs
  exact fa (eU (eU (eU e1))) e6 (d3 (eP (p1 (p3 (p4 (p4 (p4 (p3 (p1 (p1 (p1 pn)))))))))))
 refine q2 (zp (eqL m8 .const) (zp (asg m0) (q1 (ci hs m0 (fun h41 hs => ?_) (fun h41 hs => ?_)))))
 ·refine q2 (zp (mv (mU m11)) (zp (mv (mU m12)) (zp (nc m0) (zp (fd 0 0 m0) (zq (lda 0 m0 e6) (zp (mv (mU m12)) (zq (cq (.cons m1 (.cons m0 .nil)) (r6state_ok (o := r6state_s c r2) rfl l _ _) pn) ?_)))))))
  obtain ⟨r42, hr42, hs⟩ := bF hs
  refine ru (co (.cons m6 (.cons m0 (.cons .const .nil))) (estore_ok hr42 eb _ _) (p8 pn)) (q1 (cR (zo (asg .const) (pickU pick2) (rN (tB (tT (q2 (zp (mv (mU (mU m0))) (zp (mv m1) (zp (nc m1) (zp (fd 1 (fo + 1) m0) (rz (st1 fo w1 m0 m2 t4) (q3 (zp bz (rz (sta 0 (mU (mU m3)) m0 t6) (q4 (pkE (p2 pn) (tE ro_dup (pkE (p3 pn) (sr (at_ recs r2) ?_))))))))))))))))))))
  refine pkE (p0 (p2 pn)) (tE (unfocus (xs := recs) (by have := g5; omega)) ?_)
  rw [set_at g5]
  refine pkE (p4 pn) (tE ro_dup (pkE (p5 pn) (sf ({ f with line := 12 } : FrV) ?_)))
  obtain rfl := sI hs
  exact fa (eU (eU e3)) e5 (d3 (eP (p1 (p2 (p3 (p3 (p3 (p2 (p2 (p1 (p1 pn)))))))))))
 refine q2 (zp (eqL m10 .const) (zp (asg m0) (q1 (ci hs m0 (fun h43 hs => ?_) (fun h43 hs => ?_)))))
 ·refine q2 (zo (asg .const) pick16 (q1 (cS (ca 14 ?_))))
  refine zt 0 rfl (mv (mU m13)) ?_
  refine zt 1 rfl (mv (mU m14)) ?_
  refine zt 2 rfl (nc m0) ?_
  refine zt 3 rfl (fd 0 0 m0) ?_
  refine zt 5 rfl (mv (mU m18)) ?_
  refine zt 6 rfl (nc m0) ?_
  refine zt 7 rfl (fd 10 (fo + 10) m0) ?_
  refine zt 10 rfl (mv (mU m16)) ?_
  refine zt 11 rfl (aI m0 .const) ?_
  refine zt 12 rfl (op_convU m0 Tryz.underlying3 Tryz.underlying50) ?_
  refine at_group [4, 8, 9] 1 rfl (by kernel_rfl) rfl ?_
  refine yq (lda 0 m6 e6) (yq (ld fo 10 m4 e3 rfl) (yq (cq (.cons m1 (.cons m0 .nil)) (r6join_ok (o := r6join_s c f.j) rfl l _ _) pn) (qN ?_)))
  obtain ⟨r44, hr44, hs⟩ := bF hs
  refine tu 13 rfl (co (.cons m12 (.cons m0 (.cons .const (.cons m3 .nil)))) (ecas_ok hr44 eb _ _) (p8 pn)) ?_
  refine zz ?_
  refine tT (cj hs m0 (fun h45 hs => ?_) (fun h45 hs => ?_))
  ·refine cS (ca 11 ?_)
   refine zt 0 rfl (mv (mU (mU m7))) ?_
   refine zt 1 rfl (mv (mU (mU m9))) ?_
   refine zt 2 rfl (nc m0) ?_
   refine zt 3 rfl (fd 6 (fo + 6) m0) ?_
   refine zt 5 rfl (mv (mU (mU m7))) ?_
   refine zt 6 rfl (mv (mU (mU m13))) ?_
   refine zt 7 rfl (nc m0) ?_
   refine zt 8 rfl (fd 10 (fo + 10) m0) ?_
   refine at_group [4, 9] 1 rfl (by kernel_rfl) rfl ?_
   refine yq (ld fo 6 m4 e4 rfl) (yq (ld fo 10 m1 e4 rfl) (qN ?_))
   obtain ⟨r46, hr46, hs⟩ := bO_of hs
   refine tu 10 rfl (co (.cons m9 (.cons .const (.cons m1 (.cons m5 (.cons m0 (.cons .const .nil)))))) (eemit_ok hr46 eb _ _) (p10 pn)) ?_
   refine zz ?_
   refine tT (cR (zo (asg .const) (pickU pick5) (rN (tB (tT (q2 (zp (mv (mU (mU m19))) (zp (mv m1) (zp (nc m1) (zp (fd 1 (fo + 1) m0) (rz (st1 fo w1 m0 m2 t5) (q3 (zp bz (rz (sta 0 (mU (mU (mU m2))) m0 t7) (q4 (pkE (p3 pn) (tE ro_dup (pkE (p4 pn) (sr (at_ recs r2) ?_)))))))))))))))))))
   refine pkE (p0 (p3 pn)) (tE (unfocus (xs := recs) (by have := g5; omega)) ?_)
   rw [set_at g5]
   refine pkE (p5 pn) (tE ro_dup (pkE (p6 pn) (sf ({ f with line := 13 } : FrV) ?_)))
   obtain rfl := sI hs
   exact fa (eU (eU (eU e2))) e6 (d3 (eP (p1 (p2 (p4 (p4 (p4 (p3 (p3 (p1 (p1 pn)))))))))))
  refine cK (tB (tT (q2 (zp (mv (mU (mU m8))) (zp (mv m15) (zp (nc m1) (zp (fd 1 (fo + 1) m0) (rz (st1 fo w1 m0 m2 t4) (q3 (zp bz (rz (sta 0 (mU (mU m11)) m0 t6) (q4 (pkE (p2 pn) (tE ro_dup (pkE (p3 pn) (sr (at_ recs r2) ?_))))))))))))))))
  refine pkE (p0 (p2 pn)) (tE (unfocus (xs := recs) (by have := g5; omega)) ?_)
  rw [set_at g5]
  refine pkE (p4 pn) (tE ro_dup (pkE (p5 pn) (sf ({ f with line := 15 } : FrV) ?_)))
  obtain rfl := sI hs
  exact fa (eU (eU e11)) e5 (d3 (eP (p1 (p2 (p3 (p3 (p3 (p2 (p2 (p1 (p1 pn)))))))))))
 refine q2 (zp (eqL m12 .const) (zp (asg m0) (q1 (ci hs m0 (fun h47 hs => ?_) (fun h47 hs => ?_)))))
 ·refine q2 (zp (mv (mU m16)) (zp (mv (mU m16)) (zp (mv (mU m17)) (zp (nc m0) (zp (fd 0 0 m0) (zq (lda 0 m0 e6) (zp (mv (mU m17)) (zq (cq (.cons m1 (.cons m0 .nil)) (r6level_ok (o := r6level_s c r2) rfl l _ _) pn) ?_))))))))
  obtain ⟨r48, hr48, hs⟩ := bF hs
  refine ru (co (.cons m6 (.cons m0 .nil)) (eload_ok hr48 eb _ _) (p8 pn)) (zp (op_convI m0 Tryz.underlying50 Tryz.underlying3) (zp (nc m9) (zp (fd 12 (fo + 12) m0) (rz (st1 fo w12 m0 m2 t4) (q1 (cR (zo (asg .const) (pickU pick10) (rN (tB (tT (q2 (zp (mv (mU (mU m8))) (zp (mv m1) (zp (nc m1) (zp (fd 1 (fo + 1) m0) (rz (st1 fo w1 m0 m2 t4) (q3 (zp bz (rz (sta 0 (mU (mU m11)) m0 t6) (q4 (pkE (p2 pn) (tE ro_dup (pkE (p3 pn) (sr (at_ recs r2) ?_))))))))))))))))))))))))
  refine pkE (p0 (p2 pn)) (tE (unfocus (xs := recs) (by have := g5; omega)) ?_)
  rw [set_at g5]
  refine pkE (p4 pn) (tE ro_dup (pkE (p5 pn) (sf ({ f with line := 14, t := (wi r48.1) } : FrV) ?_)))
  obtain rfl := sI hs
  exact fa (eU (eU e11)) e5 (d3 (eP (p1 (p2 (p3 (p3 (p3 (p2 (p2 (p1 (p1 pn)))))))))))
 refine q2 (zp (eqL m14 .const) (zp (asg m0) (q1 (ci hs m0 (fun h49 hs => ?_) (fun h49 hs => ?_)))))
 ·refine q2 (zp (mv (mU m17)) (zp (mv (mU m18)) (zp (nc m0) (zp (fd 0 0 m0) (zq (lda 0 m0 e6) (zp (mv (mU m18)) (zq (cq (.cons m1 (.cons m0 .nil)) (r6state_ok (o := r6state_s c r2) rfl l _ _) pn) ?_)))))))
  obtain ⟨r50, hr50, hs⟩ := bF hs
  refine ru (co (.cons m6 (.cons m0 (.cons .const .nil))) (estore_ok hr50 eb _ _) (p8 pn)) (q1 (cR (zo (asg .const) (pickU pick8) (rN (tB (tT (q2 (zp (mv (mU (mU m6))) (zp (mv m1) (zp (nc m1) (zp (fd 1 (fo + 1) m0) (rz (st1 fo w1 m0 m2 t4) (q3 (zp bz (rz (sta 0 (mU (mU m9)) m0 t6) (q4 (pkE (p2 pn) (tE ro_dup (pkE (p3 pn) (sr (at_ recs r2) ?_))))))))))))))))))))
  refine pkE (p0 (p2 pn)) (tE (unfocus (xs := recs) (by have := g5; omega)) ?_)
  rw [set_at g5]
  refine pkE (p4 pn) (tE ro_dup (pkE (p5 pn) (sf ({ f with line := 16 } : FrV) ?_)))
  obtain rfl := sI hs
  exact fa (eU (eU e9)) e5 (d3 (eP (p1 (p2 (p3 (p3 (p3 (p2 (p2 (p1 (p1 pn)))))))))))
 refine q2 (zp (eqL m16 .const) (zp (asg m0) (q1 (ci hs m0 (fun h51 hs => ?_) (fun h51 hs => ?_)))))
 ·refine q2 (zp (mv (mU m19)) (zp (mv (mU (mU m0))) (zp (nc m0) (zp (fd 0 0 m0) (zq (lda 0 m0 e6) (zp (mv (mU (mU m0))) (zq (cq (.cons m1 (.cons m0 .nil)) (r6waits_ok (o := r6waits_s c r2) rfl l _ _) pn) ?_)))))))
  obtain ⟨r52, hr52, hs⟩ := bF hs
  refine ru (co (.cons m6 (.cons m0 (.cons .const .nil))) (estore_ok hr52 eb _ _) (p8 pn)) (q3 (zp (mv (mU m11)) (zp (nc m0) (zp (fd 4 (ro6 + (r2).toNat * 7 + 4) m0) (rz (st1 (ro6 + (r2).toNat * 7) w4 m0 .const t1) (q1 (ca 11 ?_)))))))
  refine zt 0 rfl (mv (mU (mU m10))) ?_
  refine zt 1 rfl (mv (mU (mU m12))) ?_
  refine zt 2 rfl (nc m0) ?_
  refine zt 3 rfl (fd 6 (fo + 6) m0) ?_
  refine zt 5 rfl (mv (mU (mU m10))) ?_
  refine zt 6 rfl (mv (mU (mU m16))) ?_
  refine zt 7 rfl (nc m0) ?_
  refine zt 8 rfl (fd 10 (fo + 10) m0) ?_
  refine at_group [4, 9] 1 rfl (by kernel_rfl) rfl ?_
  refine yq (ld fo 6 m4 e4 rfl) (yq (ld fo 10 m1 e4 rfl) (qN ?_))
  obtain ⟨r53, hr53, hs⟩ := bO_of hs
  refine tu 10 rfl (co (.cons m9 (.cons .const (.cons m1 (.cons m5 (.cons m0 (.cons .const .nil)))))) (eemit_ok hr53 eb _ _) (p10 pn)) ?_
  refine zz ?_
  refine tB (tT (q2 (zp (mv (mU (mU (mU m2)))) (zp (mv (mU (mU m5))) (zp (nc m1) (zp (fd 1 (fo + 1) m0) (rz (st1 fo w1 m0 m2 t5) (q3 (zp bz (rz (sta 0 (mU (mU (mU m5))) m0 t7) (q4 (pkE (p3 pn) (tE ro_dup (pkE (p4 pn) (sr ({ (at_ recs r2) with waiting := (-1) } : RecV) ?_)))))))))))))))
  refine pkE (p0 (p3 pn)) (tE (unfocus_st (xs := recs) (by have := g5; omega)) (pkE (p9 pn) (tE (ent_rs (m' := (st_ recs r2 ({ (at_ recs r2) with waiting := (-1) } : RecV)).length) (by simp [st_])) (pkE (p6 pn) (tE ro_dup (pkE (p7 pn) (sf ({ f with line := 1 } : FrV) ?_)))))))
  obtain rfl := sI hs
  exact fa (eU (eU (eU e5))) e7 (d3 (eP (p1 (p3 (p5 (p5 (p5 (p4 (p1 (p1 (p1 pn)))))))))))
 refine q2 (zp (mv (mU m19)) (zp (mv (mU (mU m1))) (zp (mv (mU m17)) (pkR (p4 pn) (rE ro_dup (pkR (p5 pn) (rE (shut (N := itN frC FrV.l fb fo f) (A3, c3) rfl) ?_)))))))
 obtain ⟨r54, hr54, hs⟩ := bO_of hs
 refine ru (co (.cons m2 (.cons m1 (.cons m0 .nil))) (r8finish_ok hr54 eb l (some ⟨rb6, ro6, none⟩) RC fb fo _ _) (p6 (p7 (p7 (p7 (p0 pn)))))) (rz (sta 0 (mU (mU m2)) m0 t9) (q4 (bR (tR (pkE (p7 pn) (tE ro_dup (pkE (p8 pn) (sr (at_ recs r2) ?_))))))))
 refine pkE (p0 (p7 pn)) (tE (unfocus (xs := recs) (by have := g5; omega)) ?_)
 rw [set_at g5]
 obtain rfl := sI hs
 exact fa (eU (eU e2)) e8 (d3 (eP (p1 (p6 (p6 (p1 (p5 (p1 (p1 pn)))))))))
def r8client_s (c : Cfg) (m : MemV) (now : Int) (evs : List Ev) (f : FrV) : Option (ResV × MemV × (List Ev) × FrV) :=
 if ((c.subs.length : Nat) : Int) ≤ f.i then
  some ((r8end_s 0 0), m, evs, f)
 else
 if 0 ≤ f.i ∧ f.i < (c.subs.length : Int) then
 if f.line = 2 then
  bT (eload_s m 2) fun r23 =>
  if c.heap ≤ (wi r23.1) then
   (eemit_s evs 2 c.workers 0 f.i 1).bind fun r27 =>
   some ((⟨false, 0, 0⟩ : ResV), r23.2, r27, ({ f with line := 8, b := 0 } : FrV))
  else
  some ((⟨false, 0, 0⟩ : ResV), r23.2, evs, ({ f with line := (wi (f.line + 1)), b := 0 } : FrV))
 else
 if f.line = 4 then
  bT (estore_s m (r6level_s c f.n) (wu ((at_ c.subs f.i).level))) fun r29 =>
  some ((⟨false, 0, 0⟩ : ResV), r29, evs, ({ f with line := (wi (f.line + 1)) } : FrV))
 else
 if f.line = 5 then
  bT (estore_s m (r6since_s c f.n) (wu now)) fun r31 =>
  some ((⟨false, 0, 0⟩ : ResV), r31, evs, ({ f with line := (wi (f.line + 1)) } : FrV))
 else
 bT (estore_s m (r6state_s c f.n) 1) fun r32 =>
 some ((⟨false, 0, 0⟩ : ResV), r32, evs, ({ f with line := (wi (f.line + 1)) } : FrV))
 else none
theorem r8client_ok {o : ResV × MemV × (List Ev) × FrV} (hs : r8client_s c m now evs f = some o) (eb : Nat) (l : CfgAt) (pl : List (Option Addr × Nat)) (fb fo : Nat)  (B : Nat) (W : World)  : Fn_ Tryz.prog 139 #[vp eb 0, vp fb fo] B W [cP eb c l, cfgL c l pl, memS eb 11 m, pts eb 17 [vi now], evsS eb 20 evs, frS fb fo f] (X := Unit) (fun x => .agg #[.bool (o.1.done), vi o.1.code, vi o.1.value]) (fun x => [cP eb c l, cfgL c l pl, memS eb 11 o.2.1, pts eb 17 [vi now], evsS eb 20 o.2.2.1, frS fb fo o.2.2.2]) := by
 unfold r8client_s at hs
 refine fe2 Tryz.func139 114 rfl (fun F => ?_)
 refine q2 (rn (al [.bool false, zi, zi]) ?_)
 rintro b1
 refine q1 (cS (cS (ct_open pick6 ?_)))
 rintro ⟨A2, c2⟩
 refine ct_draw (by kernel_rfl) (by kernel_rfl) ?_
 refine yp (mv m2) (yp (nc m0) (yp (fd 9 (fo + 9) m0) (yq (ld fo 9 m0 e0 rfl) (yp (mv m5) (yp (nc m0) (yp (fd 0 0 m0) (yp (fd 10 10 m0) (yq (ld 0 10 m0 e3 rfl) (yp (op_len m0 Tryz.underlying26) (yp (op_geq m6 m0) (qN (tT (ci hs m0 (fun h3 hs => ?_) (fun h3 hs => ?_))))))))))))))
 ·refine q2 (zq (cq (.cons .const (.cons .const .nil)) (r8end_ok (o := r8end_s 0 0) rfl  _ _) pn) (rz (sta 0 m12 m0 t2) (q4 (tR (pkE (p1 pn) (tE ro_dup (pkE (p2 pn) (sf f ?_))))))))
  obtain rfl := sI hs
  exact fa e12 e2 (d2 (eP (p1 (p1 (p1 (p1 (p1 (p1 (p1 pn)))))))))
 refine cK (tT (cS ?_))
 obtain ⟨g4, hs⟩ := gO hs
 refine ct_cutG (S := Nat) (G := Unit) (fun _ => True) (fun b5 _ => [(5, vp b5 0), (4, vp b1 0), (0, vp eb 0), (1, vp fb fo)]) (fun b5 _ => pts b5 0 [vi ((at_ c.subs f.i).prog), vi ((at_ c.subs f.i).level), vi ((at_ c.subs f.i).deadline)] :: pts fb fo [vi f.kind, vi f.line, vi f.q.top, vi f.q.bottom, vi f.q.ring, vi f.q.cap, vi f.a, vi f.b, vi f.d, vi f.i, vi f.j, vi f.n, vi f.t, vu f.u, vu f.v, vu f.w, vu f.x, .slice A2 f.l.length c2] :: roS encInt 1 A2 c2 f.l :: pts b1 0 [.bool false, zi, zi] :: cP eb c l :: cfgL c l pl :: memS eb 11 m :: pts eb 17 [vi now] :: evsS eb 20 evs :: [F]) ?_ (fun b5 _ _ => (?_ : CT _ _ _ _ _ _ _ _ _))
 ·refine ca 13 ?_
  refine at_key (X := fun A_ => A_ #[true, true, true, true, true, true, true, true, true, false, false, false, false] 4 [(27, vi f.i), (23, .slice l.sa c.subs.length l.sc), (4, vp b1 0), (0, vp eb 0), (1, vp fb fo)] (pts fb fo [vi f.kind, vi f.line, vi f.q.top, vi f.q.bottom, vi f.q.ring, vi f.q.cap, vi f.a, vi f.b, vi f.d, vi f.i, vi f.j, vi f.n, vi f.t, vu f.u, vu f.v, vu f.w, vu f.x, .slice A2 f.l.length c2] :: roS encInt 1 A2 c2 f.l :: pts b1 0 [.bool false, zi, zi] :: cP eb c l :: cfgL c l pl :: memS eb 11 m :: pts eb 17 [vi now] :: evsS eb 20 evs :: [F])) ?_ (fun k15 => ?_)
  ·show AT _ _ _ _ _ _ _ _ _ _
   refine x2 9 11 ?_ ?_
   ·refine zs rfl (oq_indexD (enc := Sub.enc) (sz' := 3) (sz := 3) (xs := c.subs) m1 m0 (rd_subs e4) g4 rfl (by kernel_rfl) rfl) ?_
    refine x2 10 11 ?_ ?_
    ·refine zs rfl (oq_loadDS (enc := Sub.enc) (sz := 3) (i := (f.i).toNat) (xs := c.subs) m0 (rd_subs e4) (at_get g4) rfl (by kernel_rfl) rfl) ?_
     refine tn 11 rfl (al [zi, zi, zi]) ?_
     rintro b16
     refine tz 12 rfl (sta 0 m0 m1 t0) ?_
     refine zz ?_
     exact aK b16 () trivial (lc e0 (lc e5 (lc e6 (lc e7 lN)))) Ent.refl
    refine un rfl (al [zi, zi, zi]) ?_
    rintro b17
    refine za 10 rfl (oq_loadDS (enc := Sub.enc) (sz := 3) (i := (f.i).toNat) (xs := c.subs) m1 (rd_subs e5) (at_get g4) rfl (by kernel_rfl) rfl) ?_
    refine tz 12 rfl (sta 0 m1 m0 t0) ?_
    refine zz ?_
    exact aK b17 () trivial (lc e1 (lc e5 (lc e6 (lc e7 lN)))) Ent.refl
   refine un rfl (al [zi, zi, zi]) ?_
   rintro b18
   refine za 9 rfl (oq_indexD (enc := Sub.enc) (sz' := 3) (sz := 3) (xs := c.subs) m2 m1 (rd_subs e5) g4 rfl (by kernel_rfl) rfl) ?_
   refine za 10 rfl (oq_loadDS (enc := Sub.enc) (sz := 3) (i := (f.i).toNat) (xs := c.subs) m0 (rd_subs e5) (at_get g4) rfl (by kernel_rfl) rfl) ?_
   refine tz 12 rfl (sta 0 m2 m0 t0) ?_
   refine zz ?_
   exact aK b18 () trivial (lc e2 (lc e5 (lc e6 (lc e7 lN)))) Ent.refl
  refine zt 0 rfl (mv m12) ?_
  refine zt 1 rfl (nc m0) ?_
  refine zt 2 rfl (fd 0 0 m0) ?_
  refine zt 3 rfl (fd 10 10 m0) ?_
  refine zt 5 rfl (mv m17) ?_
  refine zt 6 rfl (nc m0) ?_
  refine zt 7 rfl (fd 9 (fo + 9) m0) ?_
  refine x3 4 8 11 ?_ ?_ ?_
  ·refine zs rfl (ld 0 10 m3 e3 rfl) ?_
   refine x2 8 11 ?_ ?_
   ·refine zs rfl (ld fo 9 m1 e0 rfl) ?_
    exact at_use k15 (lc e0 (lc e1 (lc (eU e0) (lc (eU e1) (lc (eU e2) lN))))) Ent.refl
   refine un rfl (al [zi, zi, zi]) ?_
   rintro b19
   refine za 8 rfl (ld fo 9 m2 e1 rfl) ?_
   refine za 9 rfl (oq_indexD (enc := Sub.enc) (sz' := 3) (sz := 3) (xs := c.subs) m2 m0 (rd_subs e5) g4 rfl (by kernel_rfl) rfl) ?_
   refine za 10 rfl (oq_loadDS (enc := Sub.enc) (sz := 3) (i := (f.i).toNat) (xs := c.subs) m0 (rd_subs e5) (at_get g4) rfl (by kernel_rfl) rfl) ?_
   refine tz 12 rfl (sta 0 m3 m0 t0) ?_
   refine zz ?_
   exact aK b19 () trivial (lc e3 (lc (eU e3) (lc (eU e4) (lc (eU e5) lN)))) Ent.refl
  ·refine zs rfl (ld fo 9 m0 e0 rfl) ?_
   refine x2 4 11 ?_ ?_
   ·refine zs rfl (ld 0 10 m4 e3 rfl) ?_
    exact at_use k15 (lc e1 (lc e0 (lc (eU e0) (lc (eU e1) (lc (eU e2) lN))))) Ent.refl
   refine un rfl (al [zi, zi, zi]) ?_
   rintro b20
   refine za 4 rfl (ld 0 10 m5 e4 rfl) ?_
   refine za 9 rfl (oq_indexD (enc := Sub.enc) (sz' := 3) (sz := 3) (xs := c.subs) m0 m2 (rd_subs e5) g4 rfl (by kernel_rfl) rfl) ?_
   refine za 10 rfl (oq_loadDS (enc := Sub.enc) (sz := 3) (i := (f.i).toNat) (xs := c.subs) m0 (rd_subs e5) (at_get g4) rfl (by kernel_rfl) rfl) ?_
   refine tz 12 rfl (sta 0 m3 m0 t0) ?_
   refine zz ?_
   exact aK b20 () trivial (lc e3 (lc (eU e3) (lc (eU e4) (lc (eU e5) lN)))) Ent.refl
  refine un rfl (al [zi, zi, zi]) ?_
  rintro b21
  refine at_group [4, 8, 9, 10] 1 rfl (by kernel_rfl) rfl ?_
  refine yq (ld 0 10 m4 e4 rfl) (yq (ld fo 9 m2 e1 rfl) (yq (oq_indexD (enc := Sub.enc) (sz' := 3) (sz := 3) (xs := c.subs) m1 m0 (rd_subs e5) g4 rfl (by kernel_rfl) rfl) (yq (oq_loadDS (enc := Sub.enc) (sz := 3) (i := (f.i).toNat) (xs := c.subs) m0 (rd_subs e5) (at_get g4) rfl (by kernel_rfl) rfl) (qN (tz 12 rfl (sta 0 m4 m0 t0) ?_)))))
  refine zz ?_
  exact aK b21 () trivial (lc e4 (lc (eU e3) (lc (eU e4) (lc (eU e5) lN)))) Ent.refl
 refine q2 (zp (mv m3) (zp (nc m0) (zp (fd 1 (fo + 1) m0) (zq (ld fo 1 m0 e1 rfl) (zp (aI m0 .const) (zp (asg m0) (q1 (cS (q2 (zp (mv m9) (zp (nc m0) (zp (fd 1 (fo + 1) m0) (zq (ld fo 1 m0 e1 rfl) (q1 (cB (q2 (zp (eqL m0 .const) (zp (asg m0) (q1 (ci hs m0 (fun h22 hs => ?_) (fun h22 hs => ?_)))))))))))))))))))))
 ·refine q2 (zp (mv m15) (zp (nc m0) (zp (fd 7 (fo + 7) m0) (rz (st1 fo w7 m0 .const t1) (q1 (cS ?_))))))
  obtain ⟨r23, hr23, hs⟩ := bF hs
  refine ct_cutG (S := Unit) (G := Unit) (fun _ => True) (fun _ _ => [(63, .bool (decide (c.heap ≤ (wi r23.1)))), (6, vi ((wi (f.line + 1)))), (4, vp b1 0), (0, vp eb 0), (1, vp fb fo)]) (fun _ _ => memS eb 11 r23.2 :: pts b5 0 [vi ((at_ c.subs f.i).prog), vi ((at_ c.subs f.i).level), vi ((at_ c.subs f.i).deadline)] :: pts fb fo [vi f.kind, vi f.line, vi f.q.top, vi f.q.bottom, vi f.q.ring, vi f.q.cap, vi f.a, zi, vi f.d, vi f.i, vi f.j, vi f.n, vi f.t, vu f.u, vu f.v, vu f.w, vu f.x, .slice A2 f.l.length c2] :: roS encInt 1 A2 c2 f.l :: pts b1 0 [.bool false, zi, zi] :: cP eb c l :: cfgL c l pl :: pts eb 17 [vi now] :: evsS eb 20 evs :: [F]) ?_ (fun _ _ _ => (?_ : CT _ _ _ _ _ _ _ _ _))
  ·refine ca 9 ?_
   refine zt 0 rfl (mv m17) ?_
   refine zt 3 rfl (mv m18) ?_
   refine zt 4 rfl (nc m0) ?_
   refine zt 5 rfl (fd 0 0 m0) ?_
   refine zt 6 rfl (fd 5 5 m0) ?_
   refine x2 1 7 ?_ ?_
   ·refine uu rfl (co (.cons m4 (.cons .const .nil)) (eload_ok hr23 eb _ _) (p6 pn)) ?_
    refine zt 2 rfl (op_convI m0 Tryz.underlying50 Tryz.underlying3) ?_
    refine za 7 rfl (ld 0 5 m2 e5 rfl) ?_
    refine zt 8 rfl (op_geq m1 m0) ?_
    refine zz ?_
    exact aK () () trivial (lc e0 (lc e18 (lc (eU e5) (lc (eU e6) (lc (eU e7) lN))))) Ent.refl
   refine zs rfl (ld 0 5 m0 e4 rfl) ?_
   refine tu 1 rfl (co (.cons m5 (.cons .const .nil)) (eload_ok hr23 eb _ _) (p6 pn)) ?_
   refine zt 2 rfl (op_convI m0 Tryz.underlying50 Tryz.underlying3) ?_
   refine zt 8 rfl (op_geq m0 m2) ?_
   refine zz ?_
   exact aK () () trivial (lc e0 (lc e18 (lc (eU e5) (lc (eU e6) (lc (eU e7) lN))))) Ent.refl
  refine ci hs m0 (fun h26 hs => ?_) (fun h26 hs => ?_)
  ·refine cS (ca 11 ?_)
   refine zt 0 rfl (mv m3) ?_
   refine zt 1 rfl (mv m4) ?_
   refine zt 2 rfl (nc m0) ?_
   refine zt 3 rfl (fd 0 0 m0) ?_
   refine zt 4 rfl (fd 0 0 m0) ?_
   refine zt 6 rfl (mv m9) ?_
   refine zt 7 rfl (nc m0) ?_
   refine zt 8 rfl (fd 9 (fo + 9) m0) ?_
   refine at_group [5, 9] 1 rfl (by kernel_rfl) rfl ?_
   refine yq (ld 0 0 m3 e5 rfl) (yq (ld fo 9 m1 e2 rfl) (qN ?_))
   obtain ⟨r27, hr27, hs⟩ := bO_of hs
   refine tu 10 rfl (co (.cons m9 (.cons .const (.cons m1 (.cons .const (.cons m0 (.cons .const .nil)))))) (eemit_ok hr27 eb _ _) (p8 pn)) ?_
   refine zz ?_
   refine tT (cR (zo (asg .const) pick12 (rN (tB (tT (q2 (zp (mv m15) (zp (mv m1) (zp (nc m1) (zp (fd 1 (fo + 1) m0) (rz (st1 fo w1 m0 m2 t3) (q3 (zp bz (rz (sta 0 m18 m0 t5) (q4 (pkE (p4 pn) (tE ro_dup (pkE (p5 pn) (sf ({ f with line := 8, b := 0 } : FrV) ?_)))))))))))))))))))
   obtain rfl := sI hs
   exact fa e18 e5 (d3 (eP (p1 (p3 (p3 (p3 (p3 (p2 (p2 (p1 pn))))))))))
  refine cK (tB (tT (q2 (zp (mv m4) (zp (mv m2) (zp (nc m1) (zp (fd 1 (fo + 1) m0) (rz (st1 fo w1 m0 m2 t2) (q3 (zp bz (rz (sta 0 m7 m0 t4) (q4 (pkE (p3 pn) (tE ro_dup (pkE (p4 pn) (sf ({ f with line := (wi (f.line + 1)), b := 0 } : FrV) ?_))))))))))))))))
  obtain rfl := sI hs
  exact fa e7 e4 (d3 (eP (p1 (p2 (p2 (p2 (p2 (p1 (p1 (p1 pn))))))))))
 refine q2 (zp (eqL m2 .const) (zp (asg m0) (q1 (ci hs m0 (fun h28 hs => ?_) (fun h28 hs => ?_)))))
 ·refine ca 14 ?_
  refine zt 0 rfl (mv m16) ?_
  refine zt 1 rfl (mv m17) ?_
  refine zt 2 rfl (nc m0) ?_
  refine zt 3 rfl (fd 0 0 m0) ?_
  refine zt 5 rfl (mv (mU m1)) ?_
  refine zt 6 rfl (nc m0) ?_
  refine zt 7 rfl (fd 11 (fo + 11) m0) ?_
  refine zt 10 rfl (fd 1 1 (mU m1)) ?_
  refine at_group [4, 8, 9, 11, 12] 1 rfl (by kernel_rfl) rfl ?_
  refine yq (lda 0 m4 e4) (yq (ld fo 11 m2 e1 rfl) (yq (cq (.cons m1 (.cons m0 .nil)) (r6level_ok (o := r6level_s c f.n) rfl l _ _) pn) (yq (ld 0 1 m3 e0 rfl) (yp (op_convU m0 Tryz.underlying3 Tryz.underlying50) (qN ?_)))))
  obtain ⟨r29, hr29, hs⟩ := bF hs
  refine tu 13 rfl (co (.cons m12 (.cons m2 (.cons m0 .nil))) (estore_ok hr29 eb _ _) (p6 pn)) ?_
  refine zz ?_
  refine tB (tT (q2 (zp (mv (mU m11)) (zp (mv (mU m3)) (zp (nc m1) (zp (fd 1 (fo + 1) m0) (rz (st1 fo w1 m0 m2 t2) (q3 (zp bz (rz (sta 0 (mU m14) m0 t4) (q4 (pkE (p3 pn) (tE ro_dup (pkE (p4 pn) (sf ({ f with line := (wi (f.line + 1)) } : FrV) ?_)))))))))))))))
  obtain rfl := sI hs
  exact fa (eU e14) e4 (d3 (eP (p1 (p2 (p2 (p2 (p2 (p1 (p1 (p1 pn))))))))))
 refine q2 (zp (eqL m4 .const) (zp (asg m0) (q1 (ci hs m0 (fun h30 hs => ?_) (fun h30 hs => ?_)))))
 ·refine ca 16 ?_
  refine zt 0 rfl (mv m18) ?_
  refine zt 1 rfl (mv m19) ?_
  refine zt 2 rfl (nc m0) ?_
  refine zt 3 rfl (fd 0 0 m0) ?_
  refine zt 5 rfl (mv (mU m3)) ?_
  refine zt 6 rfl (nc m0) ?_
  refine zt 7 rfl (fd 11 (fo + 11) m0) ?_
  refine zt 10 rfl (mv (mU m5)) ?_
  refine zt 11 rfl (nc m0) ?_
  refine zt 12 rfl (fd 17 17 m0) ?_
  refine at_group [4, 8, 9, 13, 14] 1 rfl (by kernel_rfl) rfl ?_
  refine yq (lda 0 m6 e4) (yq (ld fo 11 m4 e1 rfl) (yq (cq (.cons m1 (.cons m0 .nil)) (r6since_ok (o := r6since_s c f.n) rfl l _ _) pn) (yq (ld 17 0 m3 e7 rfl) (yp (op_convU m0 Tryz.underlying3 Tryz.underlying50) (qN ?_)))))
  obtain ⟨r31, hr31, hs⟩ := bF hs
  refine tu 15 rfl (co (.cons m14 (.cons m2 (.cons m0 .nil))) (estore_ok hr31 eb _ _) (p6 pn)) ?_
  refine zz ?_
  refine tB (tT (q2 (zp (mv (mU m15)) (zp (mv (mU m7)) (zp (nc m1) (zp (fd 1 (fo + 1) m0) (rz (st1 fo w1 m0 m2 t2) (q3 (zp bz (rz (sta 0 (mU m18) m0 t4) (q4 (pkE (p3 pn) (tE ro_dup (pkE (p4 pn) (sf ({ f with line := (wi (f.line + 1)) } : FrV) ?_)))))))))))))))
  obtain rfl := sI hs
  exact fa (eU e18) e4 (d3 (eP (p1 (p2 (p2 (p2 (p2 (p1 (p1 (p1 pn))))))))))
 refine ca 11 ?_
 refine zt 0 rfl (mv m18) ?_
 refine zt 1 rfl (mv m19) ?_
 refine zt 2 rfl (nc m0) ?_
 refine zt 3 rfl (fd 0 0 m0) ?_
 refine zt 5 rfl (mv (mU m3)) ?_
 refine zt 6 rfl (nc m0) ?_
 refine zt 7 rfl (fd 11 (fo + 11) m0) ?_
 refine at_group [4, 8, 9] 1 rfl (by kernel_rfl) rfl ?_
 refine yq (lda 0 m3 e4) (yq (ld fo 11 m1 e1 rfl) (yq (cq (.cons m1 (.cons m0 .nil)) (r6state_ok (o := r6state_s c f.n) rfl l _ _) pn) (qN ?_)))
 obtain ⟨r32, hr32, hs⟩ := bF hs
 refine tu 10 rfl (co (.cons m9 (.cons m0 (.cons .const .nil))) (estore_ok hr32 eb _ _) (p6 pn)) ?_
 refine zz ?_
 refine tB (tT (q2 (zp (mv (mU m10)) (zp (mv (mU m2)) (zp (nc m1) (zp (fd 1 (fo + 1) m0) (rz (st1 fo w1 m0 m2 t2) (q3 (zp bz (rz (sta 0 (mU m13) m0 t4) (q4 (pkE (p3 pn) (tE ro_dup (pkE (p4 pn) (sf ({ f with line := (wi (f.line + 1)) } : FrV) ?_)))))))))))))))
 obtain rfl := sI hs
 exact fa (eU e13) e4 (d3 (eP (p1 (p2 (p2 (p2 (p2 (p1 (p1 (p1 pn))))))))))
def r8probe_l2 (c : Cfg) : Nat → Bool × Int × FrV → Option (Bool × Int × FrV)
 | 0, _ => none
 | k + 1, y2 =>
  if y2.2.1 < c.workers then
   if y2.1 = true then
    r8probe_l2 c k (true, (wi (y2.2.1 + 1)), y2.2.2)
   else
   if c.workers ≠ 0 then
   r8probe_l2 c k ((decide ((Int.tmod (wi (y2.2.2.t + y2.2.1)) c.workers) ≠ y2.2.2.a)), (wi (y2.2.1 + 1)), y2.2.2)
   else none
  else
  some (y2.1, y2.2.1, y2.2.2)
def r8probe_l3 (c : Cfg) : Nat → Bool × Int × FrV → Option (Bool × Int × FrV)
 | 0, _ => none
 | k + 1, y3 =>
  if y3.2.1 < c.workers then
   if y3.1 = true then
    r8probe_l3 c k (true, (wi (y3.2.1 + 1)), y3.2.2)
   else
   if c.workers ≠ 0 then
   r8probe_l3 c k ((decide ((Int.tmod (wi (y3.2.2.t + y3.2.1)) c.workers) ≠ y3.2.2.a)), (wi (y3.2.1 + 1)), y3.2.2)
   else none
  else
  some (y3.1, y3.2.1, y3.2.2)
def r8probe_l4 (c : Cfg) : Nat → Bool × Int × FrV → Option (Bool × Int × FrV)
 | 0, _ => none
 | k + 1, y4 =>
  if y4.2.1 < c.workers then
   if y4.1 = true then
    r8probe_l4 c k (true, (wi (y4.2.1 + 1)), y4.2.2)
   else
   if c.workers ≠ 0 then
   r8probe_l4 c k ((decide ((Int.tmod (wi (y4.2.2.t + y4.2.1)) c.workers) ≠ y4.2.2.a)), (wi (y4.2.1 + 1)), y4.2.2)
   else none
  else
  some (y4.1, y4.2.1, y4.2.2)
def r8probe_l5 (c : Cfg) : Nat → Bool × Int × FrV → Option (Bool × Int × FrV)
 | 0, _ => none
 | k + 1, y5 =>
  if y5.2.1 < c.workers then
   if y5.1 = true then
    r8probe_l5 c k (true, (wi (y5.2.1 + 1)), y5.2.2)
   else
   if c.workers ≠ 0 then
   r8probe_l5 c k ((decide ((Int.tmod (wi (y5.2.2.t + y5.2.1)) c.workers) ≠ y5.2.2.a)), (wi (y5.2.1 + 1)), y5.2.2)
   else none
  else
  some (y5.1, y5.2.1, y5.2.2)
def r8probe_l1 (c : Cfg) : Nat → Int × Int × FrV → Option (Int × Int × FrV)
 | 0, _ => none
 | k + 1, y1 =>
  if y1.2.1 < c.workers then
   r8probe_l1 c k ((if y1.2.1 ≠ y1.2.2.a then (wi (y1.1 + 1)) else y1.1), (wi (y1.2.1 + 1)), y1.2.2)
  else
  some (y1.1, y1.2.1, y1.2.2)
def r8probe_l7 (c : Cfg) : Nat → Bool × Int × FrV → Option (Bool × Int × FrV)
 | 0, _ => none
 | k + 1, y7 =>
  if y7.2.1 < c.workers then
   if y7.1 = true then
    r8probe_l7 c k (true, (wi (y7.2.1 + 1)), y7.2.2)
   else
   if c.workers ≠ 0 then
   r8probe_l7 c k ((decide ((Int.tmod (wi (y7.2.2.t + y7.2.1)) c.workers) ≠ y7.2.2.a)), (wi (y7.2.1 + 1)), y7.2.2)
   else none
  else
  some (y7.1, y7.2.1, y7.2.2)
def r8probe_l8 (c : Cfg) : Nat → Bool × Int × FrV → Option (Bool × Int × FrV)
 | 0, _ => none
 | k + 1, y8 =>
  if y8.2.1 < c.workers then
   if y8.1 = true then
    r8probe_l8 c k (true, (wi (y8.2.1 + 1)), y8.2.2)
   else
   if c.workers ≠ 0 then
   r8probe_l8 c k ((decide ((Int.tmod (wi (y8.2.2.t + y8.2.1)) c.workers) ≠ y8.2.2.a)), (wi (y8.2.1 + 1)), y8.2.2)
   else none
  else
  some (y8.1, y8.2.1, y8.2.2)
def r8probe_l9 (c : Cfg) : Nat → Bool × Int × FrV → Option (Bool × Int × FrV)
 | 0, _ => none
 | k + 1, y9 =>
  if y9.2.1 < c.workers then
   if y9.1 = true then
    r8probe_l9 c k (true, (wi (y9.2.1 + 1)), y9.2.2)
   else
   if c.workers ≠ 0 then
   r8probe_l9 c k ((decide ((Int.tmod (wi (y9.2.2.t + y9.2.1)) c.workers) ≠ y9.2.2.a)), (wi (y9.2.1 + 1)), y9.2.2)
   else none
  else
  some (y9.1, y9.2.1, y9.2.2)
def r8probe_l10 (c : Cfg) : Nat → Bool × Int × FrV → Option (Bool × Int × FrV)
 | 0, _ => none
 | k + 1, y10 =>
  if y10.2.1 < c.workers then
   if y10.1 = true then
    r8probe_l10 c k (true, (wi (y10.2.1 + 1)), y10.2.2)
   else
   if c.workers ≠ 0 then
   r8probe_l10 c k ((decide ((Int.tmod (wi (y10.2.2.t + y10.2.1)) c.workers) ≠ y10.2.2.a)), (wi (y10.2.1 + 1)), y10.2.2)
   else none
  else
  some (y10.1, y10.2.1, y10.2.2)
def r8probe_l6 (c : Cfg) (f : FrV) : Nat → Int × Int → Option (Int × Int)
 | 0, _ => none
 | k + 1, y6 =>
  if y6.2 < c.workers then
   r8probe_l6 c f k ((if y6.2 ≠ f.a then (wi (y6.1 + 1)) else y6.1), (wi (y6.2 + 1)))
  else
  some (y6.1, y6.2)
def r8probe_s (c : Cfg) (m : MemV) (draw : Int) (f : FrV) : Option (ResV × MemV × FrV) :=
 if f.line = 1 then
  (r2draw_s draw c.workers).bind fun r4 =>
  (r8probe_l1 c 1000000 (0, 0, ({ f with line := 2, j := (-1), n := (-1), t := r4 } : FrV))).bind fun z1 =>
  if z1.1 = 0 then
   some ((r8end_s 2 0), m, z1.2.2)
  else
  if c.workers ≠ 0 then
  if (Int.tmod (wi (z1.2.2.t + z1.2.2.i)) c.workers) = z1.2.2.a then
   if c.workers ≠ 0 then
   bT (eload_s m (r6bitmap_s c (Int.tmod (wi (z1.2.2.t + (wi (z1.2.2.i + 1)))) c.workers))) fun r14 =>
   (r1high_s r14.1).bind fun r15 =>
   if z1.2.2.n < r15 then
    (r8probe_l2 c 1000000 (false, (wi ((wi (z1.2.2.i + 1)) + 1)), ({ z1.2.2 with i := (wi ((wi (z1.2.2.i + 1)) + 1)), j := (Int.tmod (wi (z1.2.2.t + (wi (z1.2.2.i + 1)))) c.workers), n := r15 } : FrV))).bind fun z2 =>
    if z2.1 = true then
     some ((⟨false, 0, 0⟩ : ResV), r14.2, z2.2.2)
    else
    if z2.2.2.j < 0 then
     some ((r8end_s 2 0), r14.2, z2.2.2)
    else
    some ((r8end_s 1 (wi ((wi (z2.2.2.j * 64)) + z2.2.2.n))), r14.2, z2.2.2)
   else
   (r8probe_l3 c 1000000 (false, (wi ((wi (z1.2.2.i + 1)) + 1)), ({ z1.2.2 with i := (wi ((wi (z1.2.2.i + 1)) + 1)) } : FrV))).bind fun z3 =>
   if z3.1 = true then
    some ((⟨false, 0, 0⟩ : ResV), r14.2, z3.2.2)
   else
   if z3.2.2.j < 0 then
    some ((r8end_s 2 0), r14.2, z3.2.2)
   else
   some ((r8end_s 1 (wi ((wi (z3.2.2.j * 64)) + z3.2.2.n))), r14.2, z3.2.2)
   else none
  else
  bT (eload_s m (r6bitmap_s c (Int.tmod (wi (z1.2.2.t + z1.2.2.i)) c.workers))) fun r33 =>
  (r1high_s r33.1).bind fun r34 =>
  if z1.2.2.n < r34 then
   (r8probe_l4 c 1000000 (false, (wi (z1.2.2.i + 1)), ({ z1.2.2 with i := (wi (z1.2.2.i + 1)), j := (Int.tmod (wi (z1.2.2.t + z1.2.2.i)) c.workers), n := r34 } : FrV))).bind fun z4 =>
   if z4.1 = true then
    some ((⟨false, 0, 0⟩ : ResV), r33.2, z4.2.2)
   else
   if z4.2.2.j < 0 then
    some ((r8end_s 2 0), r33.2, z4.2.2)
   else
   some ((r8end_s 1 (wi ((wi (z4.2.2.j * 64)) + z4.2.2.n))), r33.2, z4.2.2)
  else
  (r8probe_l5 c 1000000 (false, (wi (z1.2.2.i + 1)), ({ z1.2.2 with i := (wi (z1.2.2.i + 1)) } : FrV))).bind fun z5 =>
  if z5.1 = true then
   some ((⟨false, 0, 0⟩ : ResV), r33.2, z5.2.2)
  else
  if z5.2.2.j < 0 then
   some ((r8end_s 2 0), r33.2, z5.2.2)
  else
  some ((r8end_s 1 (wi ((wi (z5.2.2.j * 64)) + z5.2.2.n))), r33.2, z5.2.2)
  else none
 else
 (r8probe_l6 c f 1000000 (0, 0)).bind fun z6 =>
 if z6.1 = 0 then
  some ((r8end_s 2 0), m, f)
 else
 if c.workers ≠ 0 then
 if (Int.tmod (wi (f.t + f.i)) c.workers) = f.a then
  if c.workers ≠ 0 then
  bT (eload_s m (r6bitmap_s c (Int.tmod (wi (f.t + (wi (f.i + 1)))) c.workers))) fun r61 =>
  (r1high_s r61.1).bind fun r62 =>
  if f.n < r62 then
   (r8probe_l7 c 1000000 (false, (wi ((wi (f.i + 1)) + 1)), ({ f with i := (wi ((wi (f.i + 1)) + 1)), j := (Int.tmod (wi (f.t + (wi (f.i + 1)))) c.workers), n := r62 } : FrV))).bind fun z7 =>
   if z7.1 = true then
    some ((⟨false, 0, 0⟩ : ResV), r61.2, z7.2.2)
   else
   if z7.2.2.j < 0 then
    some ((r8end_s 2 0), r61.2, z7.2.2)
   else
   some ((r8end_s 1 (wi ((wi (z7.2.2.j * 64)) + z7.2.2.n))), r61.2, z7.2.2)
  else
  (r8probe_l8 c 1000000 (false, (wi ((wi (f.i + 1)) + 1)), ({ f with i := (wi ((wi (f.i + 1)) + 1)) } : FrV))).bind fun z8 =>
  if z8.1 = true then
   some ((⟨false, 0, 0⟩ : ResV), r61.2, z8.2.2)
  else
  if z8.2.2.j < 0 then
   some ((r8end_s 2 0), r61.2, z8.2.2)
  else
  some ((r8end_s 1 (wi ((wi (z8.2.2.j * 64)) + z8.2.2.n))), r61.2, z8.2.2)
  else none
 else
 bT (eload_s m (r6bitmap_s c (Int.tmod (wi (f.t + f.i)) c.workers))) fun r80 =>
 (r1high_s r80.1).bind fun r81 =>
 if f.n < r81 then
  (r8probe_l9 c 1000000 (false, (wi (f.i + 1)), ({ f with i := (wi (f.i + 1)), j := (Int.tmod (wi (f.t + f.i)) c.workers), n := r81 } : FrV))).bind fun z9 =>
  if z9.1 = true then
   some ((⟨false, 0, 0⟩ : ResV), r80.2, z9.2.2)
  else
  if z9.2.2.j < 0 then
   some ((r8end_s 2 0), r80.2, z9.2.2)
  else
  some ((r8end_s 1 (wi ((wi (z9.2.2.j * 64)) + z9.2.2.n))), r80.2, z9.2.2)
 else
 (r8probe_l10 c 1000000 (false, (wi (f.i + 1)), ({ f with i := (wi (f.i + 1)) } : FrV))).bind fun z10 =>
 if z10.1 = true then
  some ((⟨false, 0, 0⟩ : ResV), r80.2, z10.2.2)
 else
 if z10.2.2.j < 0 then
  some ((r8end_s 2 0), r80.2, z10.2.2)
 else
 some ((r8end_s 1 (wi ((wi (z10.2.2.j * 64)) + z10.2.2.n))), r80.2, z10.2.2)
 else none
theorem r8probe_ok {o : ResV × MemV × FrV} (hs : r8probe_s c m draw f = some o) (eb : Nat) (l : CfgAt) (fb fo : Nat)  (B : Nat) (W : World)  : Fn_ Tryz.prog 136 #[vp eb 0, vp fb fo] B W [cP eb c l, memS eb 11 m, pts eb 18 [vi draw], frS fb fo f] (X := Unit) (fun x => .agg #[.bool (o.1.done), vi o.1.code, vi o.1.value]) (fun x => [cP eb c l, memS eb 11 o.2.1, pts eb 18 [vi draw], frS fb fo o.2.2]) := by
 unfold r8probe_s at hs
 refine fe2 Tryz.func136 185 rfl (fun F => ?_)
 refine q2 (rn (al [.bool false, zi, zi]) ?_)
 rintro b1
 refine q1 (cS (cS (ct_open pick4 ?_)))
 rintro ⟨A2, c2⟩
 refine cR (zp (mv m2) (zp (nc m0) (zp (fd 1 (fo + 1) m0) (zq (ld fo 1 m0 e0 rfl) (zp (eqL m0 .const) (q1 (ci hs m0 (fun h3 hs => ?_) (fun h3 hs => ?_))))))))
 ·refine ca 26 ?_
  refine zt 0 rfl (mv m7) ?_
  refine zt 1 rfl (mv m8) ?_
  refine zt 2 rfl (mv m9) ?_
  refine zt 3 rfl (mv m10) ?_
  refine zt 4 rfl (mv m10) ?_
  refine zt 5 rfl (nc m0) ?_
  refine zt 6 rfl (fd 18 18 m0) ?_
  refine zt 8 rfl (mv m13) ?_
  refine zt 9 rfl (nc m0) ?_
  refine zt 10 rfl (fd 0 0 m0) ?_
  refine zt 11 rfl (fd 0 0 m0) ?_
  refine at_group [7, 12, 13, 14, 15] 10 rfl (by kernel_rfl) rfl ?_
  refine yq (ld 18 0 m4 e5 rfl) (yq (ld 0 0 m1 e3 rfl) ?_)
  obtain ⟨r4, hr4, hs⟩ := bO_of hs
  refine yq (cq (.cons m1 (.cons m0 .nil)) (r2draw_ok hr4  _ _) pn) (yp (nc m13) (yp (fd 1 (fo + 1) m0) (qN (tz 16 rfl (st1 fo w1 m0 .const t0) ?_))))
  refine zt 17 rfl (nc m14) ?_
  refine zt 18 rfl (fd 10 (fo + 10) m0) ?_
  refine tz 19 rfl (st1 fo w10 m0 .const t0) ?_
  refine zt 20 rfl (nc m15) ?_
  refine zt 21 rfl (fd 11 (fo + 11) m0) ?_
  refine tz 22 rfl (st1 fo w11 m0 .const t0) ?_
  refine zt 23 rfl (nc m16) ?_
  refine zt 24 rfl (fd 12 (fo + 12) m0) ?_
  refine tz 25 rfl (st1 fo w12 m0 m8 t0) ?_
  refine zz ?_
  refine tT (q2 (zp (asg .const) (q1 (cS (q2 (zp (asg .const) (q1 (cE (Ent.picks (p1 .nil)) (cE ro_dup (cE (Ent.picks (p2 (p0 .nil))) (cE (shut (N := itN frC FrV.l fb fo ({ f with line := 2, j := (-1), n := (-1), t := r4 } : FrV)) (A2, c2) rfl) ?_)))))))))))
  obtain ⟨z1, hz1, hs⟩ := bO_of hs
  refine ct_cutG (S := Int × Int × FrV) (G := Unit) (fun zw => z1 = zw) (fun z1 _ => [(5, vi z1.1), (4, vp b1 0), (0, vp eb 0), (1, vp fb fo)]) (fun z1 _ => frS fb fo z1.2.2 :: roS encInt 1 A2 c2 f.l :: pts b1 0 [.bool false, zi, zi] :: cP eb c l :: memS eb 11 m :: pts eb 18 [vi draw] :: [F]) ?_ (fun z1w _ hy1 => (?_ : CT _ _ _ _ _ _ _ _ _))
  ·refine cB (ct_loopK (S := Int × Int × FrV) (G := Unit) (fun k y1 => r8probe_l1 c k y1 = some z1) (fun _ h => by rw [r8probe_l1] at h; cases h) (fun y1 _ => [(6, vi y1.2.1), (5, vi y1.1), (4, vp b1 0), (0, vp eb 0), (1, vp fb fo)]) (fun y1 _ => frS fb fo y1.2.2 :: roS encInt 1 A2 c2 f.l :: pts b1 0 [.bool false, zi, zi] :: cP eb c l :: memS eb 11 m :: pts eb 18 [vi draw] :: [F]) 1000000 (0, 0, ({ f with line := 2, j := (-1), n := (-1), t := r4 } : FrV)) () hz1 (lc e0 (lc e1 (lc (eU e9) (lc (eU e10) (lc (eU e11) .nil))))) Ent.refl (fun k1 y1 _ hz => ?_))
   clear hz1
   have hz1 := hz; clear hz
   rw [r8probe_l1] at hz1
   refine cS (cS (ct_open pick0 ?_))
   rintro ⟨A5, c5⟩
   refine cR (zp (mv m0) (zp (mv m4) (zp (nc m0) (zp (fd 0 0 m0) (zp (fd 0 0 m0) (zq (ld 0 0 m0 e4 rfl) (zp (op_lss m5 m0) (q1 (ci hz1 m0 (fun h6 hz1 => ?_) (fun h6 hz1 => ?_))))))))))
   ·refine cK (tT (cS (ct_cut (X := Unit) (fun _ => True) (fun _ => [(5, vi ((if y1.2.1 ≠ y1.2.2.a then (wi (y1.1 + 1)) else y1.1))), (52, .bool (decide (y1.2.1 ≠ y1.2.2.a))), (51, vi y1.2.2.a), (50, vp fb (fo + 6)), (49, vp fb fo), (48, vp fb fo), (47, vi y1.2.1), (44, .bool (decide (y1.2.1 < c.workers))), (43, vi c.workers), (42, vp eb 0), (41, vp eb 0), (40, vp eb 0), (39, vp eb 0), (38, vi y1.2.1), (6, vi y1.2.1), (4, vp b1 0), (0, vp eb 0), (1, vp fb fo)]) (fun _ => pts fb fo [vi y1.2.2.kind, vi y1.2.2.line, vi y1.2.2.q.top, vi y1.2.2.q.bottom, vi y1.2.2.q.ring, vi y1.2.2.q.cap, vi y1.2.2.a, vi y1.2.2.b, vi y1.2.2.d, vi y1.2.2.i, vi y1.2.2.j, vi y1.2.2.n, vi y1.2.2.t, vu y1.2.2.u, vu y1.2.2.v, vu y1.2.2.w, vu y1.2.2.x, .slice A5 y1.2.2.l.length c5] :: roS encInt 1 A5 c5 y1.2.2.l :: roS encInt 1 A2 c2 f.l :: pts b1 0 [.bool false, zi, zi] :: cP eb c l :: memS eb 11 m :: pts eb 18 [vi draw] :: [F]) ?_ (fun _ _ => (?_ : CT _ _ _ _ _ _ _ _ _)))))
    ·refine cB (q2 (zp (mv m7) (zp (mv m12) (zp (nc m0) (zp (fd 6 (fo + 6) m0) (zq (ld fo 6 m0 e0 rfl) (zp (op_neq m4 m0) (q1 (ct_if m0 (fun h7 => ?_) (fun h7 => ?_))))))))))
     ·exact cR (zp (mv m14) (zp (aI m0 .const) (zo (asg m0) pick16 (rN (tB (et_cut () trivial (.cons e0 (by simp only [eq_true h7, ↓reduceIte, reduceCtorEq, bS]) (lc e3 (lc e4 (lc e5 (lc e6 (lc e7 (lc e8 (lc e9 (lc e10 (lc e11 (lc e12 (lc e13 (lc e14 (lc e15 (lc e16 (lc e17 (lc e18 (lc e19 .nil)))))))))))))))))) Ent.refl))))))
     exact cK (tB (et_cut () trivial (.cons e14 (by simp only [eq_false h7, ↓reduceIte, reduceCtorEq, bS]) (lc e0 (lc e1 (lc e2 (lc e3 (lc e4 (lc e5 (lc e6 (lc e7 (lc e8 (lc e9 (lc e10 (lc e11 (lc e12 (lc e13 (lc e15 (lc e16 (lc e17 .nil)))))))))))))))))) Ent.refl))
    exact cR (zp (mv m14) (zp (aI m0 .const) (zo (asg m0) pick16 (rN (pkE (p1 pn) (tE ro_dup (pkE (p2 pn) (sf y1.2.2 (aK ((if y1.2.1 ≠ y1.2.2.a then (wi (y1.1 + 1)) else y1.1), (wi (y1.2.1 + 1)), y1.2.2) () hz1 (lc e0 (lc e3 (lc e17 (lc e18 (lc e19 lN))))) (d1 (eP (p1 pn))))))))))))
   refine cX (tX (tX (bH (pkE (p1 pn) (tE ro_dup (pkE (p2 pn) (sf y1.2.2 ?_)))))))
   obtain rfl := sI hz1
   exact aK (y1.1, y1.2.1, y1.2.2) () rfl (lc e8 (lc e9 (lc e10 (lc e11 lN)))) (d1 (eP (p1 pn)))
  subst hy1
  refine cS (q2 (zp (mv m0) (zp (eqL m0 .const) (q1 (ci hs m0 (fun h8 hs => ?_) (fun h8 hs => ?_))))))
  ·refine cS (ct_open pick0 ?_)
   rintro ⟨A9, c9⟩
   refine cR (zq (cq (.cons .const (.cons .const .nil)) (r8end_ok (o := r8end_s 2 0) rfl  _ _) pn) (rz (sta 0 m4 m0 t3) (q4 (tR (pkE (p1 pn) (tE ro_dup (pkE (p2 pn) (sf z1.2.2 ?_))))))))
   obtain rfl := sI hs
   exact fa e4 e3 (d3 (eP (p1 (p1 (p1 (p1 (p1 (p1 pn))))))))
  refine cK (tT (cS (ct_open pick0 ?_)))
  rintro ⟨A10, c10⟩
  refine ct_draw (by kernel_rfl) (by kernel_rfl) ?_
  refine yp (mv m5) (yp (nc m0) (yp (fd 12 (fo + 12) m0) (yq (ld fo 12 m0 e0 rfl) (yp (mv m9) (yp (nc m0) (yp (fd 9 (fo + 9) m0) (yq (ld fo 9 m0 e0 rfl) (yp (aI m4 m0) (yp (mv m13) (yp (nc m0) (yp (fd 0 0 m0) (yp (fd 0 0 m0) (yq (ld 0 0 m0 e4 rfl) ?_)))))))))))))
  obtain ⟨g11, hs⟩ := gO hs
  refine yp (op_remI m5 m0 g11) (yp (asg m0) (qN (tT (cS (q2 (zp (mv m0) (zp (mv (mU m2)) (zp (nc m0) (zp (fd 6 (fo + 6) m0) (zq (ld fo 6 m0 e0 rfl) (zp (eqL m4 m0) (q1 (ci hs m0 (fun h12 hs => ?_) (fun h12 hs => ?_))))))))))))))
  ·refine q2 (zp (mv (mU m7)) (zp (nc m0) (zp (fd 9 (fo + 9) m0) (zq (ld fo 9 m0 e0 rfl) (zp (aI m0 .const) (zp (nc m4) (zp (fd 9 (fo + 9) m0) (rz (st1 fo w9 m0 m2 t0) (q1 (ct_draw (by kernel_rfl) (by kernel_rfl) ?_))))))))))
   refine yp (mv (mU m14)) (yp (nc m0) (yp (fd 12 (fo + 12) m0) (yq (ld fo 12 m0 e0 rfl) (yp (mv (mU m18)) (yp (nc m0) (yp (fd 9 (fo + 9) m0) (yq (ld fo 9 m0 e0 rfl) (yp (aI m4 m0) (yp (mv (mU (mU m2))) (yp (nc m0) (yp (fd 0 0 m0) (yp (fd 0 0 m0) (yq (ld 0 0 m0 e4 rfl) ?_)))))))))))))
   obtain ⟨g13, hs⟩ := gO hs
   refine yp (op_remI m5 m0 g13) (qt_q (asg m0).q wants_none (put_over (pickU pick8) (by kernel_rfl)) ?_)
   refine qN (tT (cS (q2 (zp (mv (mU (mU m8))) (zp (mv (mU (mU m9))) (zp (nc m0) (zp (fd 0 0 m0) (zq (lda 0 m0 e4) (zp (mv m5) (zq (cq (.cons m1 (.cons m0 .nil)) (r6bitmap_ok (o := r6bitmap_s c (Int.tmod (wi (z1.2.2.t + (wi (z1.2.2.i + 1)))) c.workers)) rfl l _ _) pn) ?_))))))))))
   obtain ⟨r14, hr14, hs⟩ := bF hs
   refine ru (co (.cons m6 (.cons m0 .nil)) (eload_ok hr14 eb _ _) (p5 pn)) ?_
   obtain ⟨r15, hr15, hs⟩ := bO_of hs
   refine zq (cq (.cons m0 .nil) (r1high_ok hr15  _ _) pn) (zp (asg m0) (q3 (zp (mv m0) (zp (mv (mU (mU (mU m0)))) (zp (nc m0) (zp (fd 11 (fo + 11) m0) (zq (ld fo 11 m0 e1 rfl) (zp (op_gtr m4 m0) (q1 (ci hs m0 (fun h16 hs => ?_) (fun h16 hs => ?_)))))))))))
   ·refine cR (zp (mv (mU (mU (mU m5)))) (zp (mv (mU (mU (mU m6)))) (zp (mv m18) (zp (mv m9) (zp (nc m3) (zp (fd 10 (fo + 10) m0) (rz (st1 fo w10 m0 m3 t1) (zp (nc m4) (zp (fd 11 (fo + 11) m0) (rz (st1 fo w11 m0 m4 t1) (q3 (zp (mv (mU (mU (mU m13)))) (zp (nc m0) (zp (fd 9 (fo + 9) m0) (zq (ld fo 9 m0 e1 rfl) (zp (aI m0 .const) (zp (nc m4) (zp (fd 9 (fo + 9) m0) (rz (st1 fo w9 m0 m2 t1) (q3 (zp (asg .const) (q1 (cS (q2 (zp (mv (mU (mU (mU (mU m1))))) (zp (nc m0) (zp (fd 9 (fo + 9) m0) (zq (ld fo 9 m0 e1 rfl) (zp (asg m0) (q1 (cE (Ent.picks (p2 .nil)) (cE ro_dup (cE (Ent.picks (p3 (p0 .nil))) (cE (shut (N := itN frC FrV.l fb fo ({ z1.2.2 with i := (wi ((wi (z1.2.2.i + 1)) + 1)), j := (Int.tmod (wi (z1.2.2.t + (wi (z1.2.2.i + 1)))) c.workers), n := r15 } : FrV)) (A10, c10) rfl) ?_))))))))))))))))))))))))))))))))))
    obtain ⟨z2, hz2, hs⟩ := bO_of hs
    refine ct_cutG (S := Bool × Int × FrV) (G := Unit) (fun zw => z2 = zw) (fun z2 _ => [(9, .bool (z2.1)), (4, vp b1 0), (1, vp fb fo)]) (fun z2 _ => frS fb fo z2.2.2 :: roS encInt 1 A10 c10 z1.2.2.l :: memS eb 11 r14.2 :: roS encInt 1 A2 c2 f.l :: pts b1 0 [.bool false, zi, zi] :: cP eb c l :: pts eb 18 [vi draw] :: [F]) ?_ (fun z2w _ hy2 => (?_ : CT _ _ _ _ _ _ _ _ _))
    ·refine cB (ct_loopK (S := Bool × Int × FrV) (G := Unit) (fun k y2 => r8probe_l2 c k y2 = some z2) (fun _ h => by rw [r8probe_l2] at h; cases h) (fun y2 _ => [(10, vi y2.2.1), (9, .bool (y2.1)), (4, vp b1 0), (0, vp eb 0), (1, vp fb fo)]) (fun y2 _ => frS fb fo y2.2.2 :: roS encInt 1 A10 c10 z1.2.2.l :: memS eb 11 r14.2 :: roS encInt 1 A2 c2 f.l :: pts b1 0 [.bool false, zi, zi] :: cP eb c l :: pts eb 18 [vi draw] :: [F]) 1000000 (false, (wi ((wi (z1.2.2.i + 1)) + 1)), ({ z1.2.2 with i := (wi ((wi (z1.2.2.i + 1)) + 1)), j := (Int.tmod (wi (z1.2.2.t + (wi (z1.2.2.i + 1)))) c.workers), n := r15 } : FrV)) () hz2 (lc e0 (lc e5 (lc (eU (eU (eU (eU e4)))) (lc (eU (eU (eU (eU e5)))) (lc (eU (eU (eU (eU e6)))) .nil))))) Ent.refl (fun k2 y2 _ hz => ?_))
     clear hz2
     have hz2 := hz; clear hz
     rw [r8probe_l2] at hz2
     refine cS (cS (ct_open pick0 ?_))
     rintro ⟨A17, c17⟩
     refine cR (zp (mv m0) (zp (mv m4) (zp (nc m0) (zp (fd 0 0 m0) (zp (fd 0 0 m0) (zq (ld 0 0 m0 e6 rfl) (zp (op_lss m5 m0) (q1 (ci hz2 m0 (fun h18 hz2 => ?_) (fun h18 hz2 => ?_))))))))))
     ·refine cK (tT (cS (cB (ct_draw (by kernel_rfl) (by kernel_rfl) ?_))))
      refine yp (mv m8) (yp (mv m0) (qt_caseb t0 t0 (fun h19 => ?_) (fun h19 => ?_)))
      ·replace hz2 := ip h19 hz2
       refine yk rfl rfl e0 (yk rfl rfl e1 (yk rfl rfl e2 (yk rfl rfl e3 (yk rfl rfl e4 (yk rfl rfl e5 (yk rfl rfl e6 (yk rfl rfl e7 (yk rfl rfl e8 (yk rfl rfl e9 (yk rfl rfl e10 (yk rfl rfl e11 (yk rfl rfl e12 (yk rfl rfl e13 (yk rfl rfl e14 (yk rfl rfl e15 (yk rfl rfl e16 (yp (op_pick (b := true) m17 .const) (qt_q (asg m0).q wants_none (put_over (pickU pick8) (by kernel_rfl)) ?_))))))))))))))))))
       exact qN (tB (tT (cR (zp (mv (mU m8)) (zp (aI m0 .const) (zo (asg m0) (pickU pick10) (rN (pkE (p1 pn) (tE ro_dup (pkE (p2 pn) (sf y2.2.2 (aK (true, (wi (y2.2.1 + 1)), y2.2.2) () hz2 (lc e0 (lc e3 (lc (eU e11) (lc (eU e12) (lc (eU e13) lN))))) (d1 (eP (p1 pn)))))))))))))))
      replace hz2 := (ifb_f h19).symm.trans hz2
      refine yw (mv m13).q rfl rfl e0 (yw (nc m0).q rfl rfl e1 (yw (fd 12 (fo + 12) m0).q rfl rfl e2 (yw (ld fo 12 m0 e0 rfl) rfl rfl e3 (yw (mv m13).q rfl rfl e4 (yw (aI m1 m0).q rfl rfl e5 (yw (mv m18).q rfl rfl e6 (yw (nc m0).q rfl rfl e7 (yw (fd 0 0 m0).q rfl rfl e8 (yw (fd 0 0 m0).q rfl rfl e9 (yw (ld 0 0 m0 e6 rfl) rfl rfl e10 ?_))))))))))
      obtain ⟨g20, hz2⟩ := gO hz2
      refine yw (op_remI m5 m0 g20).q rfl rfl e11 (yw (mv (mU m5)).q rfl rfl e12 (yw (nc m0).q rfl rfl e13 (yw (fd 6 (fo + 6) m0).q rfl rfl e14 (yw (ld fo 6 m0 e0 rfl) rfl rfl e15 (yw (op_neq m4 m0).q rfl rfl e16 (yp (op_pick (b := false) m17 m0) (qt_q (asg m0).q wants_none (put_over (pickU pick8) (by kernel_rfl)) ?_)))))))
      exact qN (tB (tT (cR (zp (mv (mU m8)) (zp (aI m0 .const) (zo (asg m0) (pickU pick10) (rN (pkE (p1 pn) (tE ro_dup (pkE (p2 pn) (sf y2.2.2 (aK ((decide ((Int.tmod (wi (y2.2.2.t + y2.2.1)) c.workers) ≠ y2.2.2.a)), (wi (y2.2.1 + 1)), y2.2.2) () hz2 (lc e0 (lc e3 (lc (eU e11) (lc (eU e12) (lc (eU e13) lN))))) (d1 (eP (p1 pn)))))))))))))))
     refine cX (tX (tX (bH (pkE (p1 pn) (tE ro_dup (pkE (p2 pn) (sf y2.2.2 ?_)))))))
     obtain rfl := sI hz2
     exact aK (y2.1, y2.2.1, y2.2.2) () rfl (lc e8 (lc e9 (lc e11 lN))) (d1 (eP (p1 pn)))
    subst hy2
    refine cS (cB (q2 (zp (mv m0) (zp (asg m0) (q1 (cj hs m0 (fun h21 hs => ?_) (fun h21 hs => ?_)))))))
    ·refine cS (ct_open pick0 ?_)
     rintro ⟨A22, c22⟩
     refine cR (zp bz (rz (sta 0 m4 m0 t5) (q4 (bR (tR (pkE (p1 pn) (tE ro_dup (pkE (p2 pn) (sf z2.2.2 ?_)))))))))
     obtain rfl := sI hs
     exact fa e4 e5 (d4 (eP (p1 (p1 (p2 (p2 (p2 (p1 (p1 pn)))))))))
    refine cS (ct_open pick0 ?_)
    rintro ⟨A23, c23⟩
    refine cR (zp (mv m4) (zp (nc m0) (zp (fd 10 (fo + 10) m0) (zq (ld fo 10 m0 e0 rfl) (zp (op_lss m0 .const) (zp (asg m0) (q1 (ci hs m0 (fun h24 hs => ?_) (fun h24 hs => ?_)))))))))
    ·refine q2 (zq (cq (.cons .const (.cons .const .nil)) (r8end_ok (o := r8end_s 2 0) rfl  _ _) pn) (rz (sta 0 m10 m0 t5) (q4 (bR (tR (pkE (p1 pn) (tE ro_dup (pkE (p2 pn) (sf z2.2.2 ?_)))))))))
     obtain rfl := sI hs
     exact fa e10 e5 (d4 (eP (p1 (p1 (p2 (p2 (p2 (p1 (p1 pn)))))))))
    refine cK (tB (tT (cS (ca 12 ?_))))
    refine zt 0 rfl (mv m10) ?_
    refine zt 1 rfl (nc m0) ?_
    refine zt 2 rfl (fd 10 (fo + 10) m0) ?_
    refine zt 5 rfl (mv m13) ?_
    refine zt 6 rfl (nc m0) ?_
    refine zt 7 rfl (fd 11 (fo + 11) m0) ?_
    refine at_group [3, 4, 8, 9, 10] 1 rfl (by kernel_rfl) rfl ?_
    refine yq (ld fo 10 m3 e0 rfl) (yp (op_mulI m0 .const) (yq (ld fo 11 m2 e0 rfl) (yp (aI m1 m0) (yq (cq (.cons .const (.cons m0 .nil)) (r8end_ok (o := r8end_s 1 (wi ((wi (z2.2.2.j * 64)) + z2.2.2.n))) rfl  _ _) pn) (qN (tz 11 rfl (sta 0 (mU m0) m0 t5) ?_))))))
    refine zz ?_
    refine tT (cQ (pkE (p1 pn) (tE ro_dup (pkE (p2 pn) (sf z2.2.2 ?_)))))
    obtain rfl := sI hs
    exact fa (eU e0) e5 (d4 (eP (p1 (p1 (p2 (p2 (p2 (p1 (p1 pn)))))))))
   refine cK (tT (q2 (zp (mv (mU (mU (mU m5)))) (zp (nc m0) (zp (fd 9 (fo + 9) m0) (zq (ld fo 9 m0 e1 rfl) (zp (aI m0 .const) (zp (nc m4) (zp (fd 9 (fo + 9) m0) (rz (st1 fo w9 m0 m2 t1) (q3 (zp (asg .const) (q1 (cS (q2 (zp (mv (mU (mU (mU m13)))) (zp (nc m0) (zp (fd 9 (fo + 9) m0) (zq (ld fo 9 m0 e1 rfl) (zp (asg m0) (q1 (cE (Ent.picks (p2 .nil)) (cE ro_dup (cE (Ent.picks (p3 (p0 .nil))) (cE (shut (N := itN frC FrV.l fb fo ({ z1.2.2 with i := (wi ((wi (z1.2.2.i + 1)) + 1)) } : FrV)) (A10, c10) rfl) ?_)))))))))))))))))))))))))
   obtain ⟨z3, hz3, hs⟩ := bO_of hs
   refine ct_cutG (S := Bool × Int × FrV) (G := Unit) (fun zw => z3 = zw) (fun z3 _ => [(9, .bool (z3.1)), (4, vp b1 0), (1, vp fb fo)]) (fun z3 _ => frS fb fo z3.2.2 :: roS encInt 1 A10 c10 z1.2.2.l :: memS eb 11 r14.2 :: roS encInt 1 A2 c2 f.l :: pts b1 0 [.bool false, zi, zi] :: cP eb c l :: pts eb 18 [vi draw] :: [F]) ?_ (fun z3w _ hy3 => (?_ : CT _ _ _ _ _ _ _ _ _))
   ·refine cB (ct_loopK (S := Bool × Int × FrV) (G := Unit) (fun k y3 => r8probe_l3 c k y3 = some z3) (fun _ h => by rw [r8probe_l3] at h; cases h) (fun y3 _ => [(10, vi y3.2.1), (9, .bool (y3.1)), (4, vp b1 0), (0, vp eb 0), (1, vp fb fo)]) (fun y3 _ => frS fb fo y3.2.2 :: roS encInt 1 A10 c10 z1.2.2.l :: memS eb 11 r14.2 :: roS encInt 1 A2 c2 f.l :: pts b1 0 [.bool false, zi, zi] :: cP eb c l :: pts eb 18 [vi draw] :: [F]) 1000000 (false, (wi ((wi (z1.2.2.i + 1)) + 1)), ({ z1.2.2 with i := (wi ((wi (z1.2.2.i + 1)) + 1)) } : FrV)) () hz3 (lc e0 (lc e5 (lc (eU (eU (eU e16))) (lc (eU (eU (eU e17))) (lc (eU (eU (eU e18))) .nil))))) Ent.refl (fun k3 y3 _ hz => ?_))
    clear hz3
    have hz3 := hz; clear hz
    rw [r8probe_l3] at hz3
    refine cS (cS (ct_open pick0 ?_))
    rintro ⟨A25, c25⟩
    refine cR (zp (mv m0) (zp (mv m4) (zp (nc m0) (zp (fd 0 0 m0) (zp (fd 0 0 m0) (zq (ld 0 0 m0 e6 rfl) (zp (op_lss m5 m0) (q1 (ci hz3 m0 (fun h26 hz3 => ?_) (fun h26 hz3 => ?_))))))))))
    ·refine cK (tT (cS (cB (ct_draw (by kernel_rfl) (by kernel_rfl) ?_))))
     refine yp (mv m8) (yp (mv m0) (qt_caseb t0 t0 (fun h27 => ?_) (fun h27 => ?_)))
     ·replace hz3 := ip h27 hz3
      refine yk rfl rfl e0 (yk rfl rfl e1 (yk rfl rfl e2 (yk rfl rfl e3 (yk rfl rfl e4 (yk rfl rfl e5 (yk rfl rfl e6 (yk rfl rfl e7 (yk rfl rfl e8 (yk rfl rfl e9 (yk rfl rfl e10 (yk rfl rfl e11 (yk rfl rfl e12 (yk rfl rfl e13 (yk rfl rfl e14 (yk rfl rfl e15 (yk rfl rfl e16 (yp (op_pick (b := true) m17 .const) (qt_q (asg m0).q wants_none (put_over (pickU pick8) (by kernel_rfl)) ?_))))))))))))))))))
      exact qN (tB (tT (cR (zp (mv (mU m8)) (zp (aI m0 .const) (zo (asg m0) (pickU pick10) (rN (pkE (p1 pn) (tE ro_dup (pkE (p2 pn) (sf y3.2.2 (aK (true, (wi (y3.2.1 + 1)), y3.2.2) () hz3 (lc e0 (lc e3 (lc (eU e11) (lc (eU e12) (lc (eU e13) lN))))) (d1 (eP (p1 pn)))))))))))))))
     replace hz3 := (ifb_f h27).symm.trans hz3
     refine yw (mv m13).q rfl rfl e0 (yw (nc m0).q rfl rfl e1 (yw (fd 12 (fo + 12) m0).q rfl rfl e2 (yw (ld fo 12 m0 e0 rfl) rfl rfl e3 (yw (mv m13).q rfl rfl e4 (yw (aI m1 m0).q rfl rfl e5 (yw (mv m18).q rfl rfl e6 (yw (nc m0).q rfl rfl e7 (yw (fd 0 0 m0).q rfl rfl e8 (yw (fd 0 0 m0).q rfl rfl e9 (yw (ld 0 0 m0 e6 rfl) rfl rfl e10 ?_))))))))))
     obtain ⟨g28, hz3⟩ := gO hz3
     refine yw (op_remI m5 m0 g28).q rfl rfl e11 (yw (mv (mU m5)).q rfl rfl e12 (yw (nc m0).q rfl rfl e13 (yw (fd 6 (fo + 6) m0).q rfl rfl e14 (yw (ld fo 6 m0 e0 rfl) rfl rfl e15 (yw (op_neq m4 m0).q rfl rfl e16 (yp (op_pick (b := false) m17 m0) (qt_q (asg m0).q wants_none (put_over (pickU pick8) (by kernel_rfl)) ?_)))))))
     exact qN (tB (tT (cR (zp (mv (mU m8)) (zp (aI m0 .const) (zo (asg m0) (pickU pick10) (rN (pkE (p1 pn) (tE ro_dup (pkE (p2 pn) (sf y3.2.2 (aK ((decide ((Int.tmod (wi (y3.2.2.t + y3.2.1)) c.workers) ≠ y3.2.2.a)), (wi (y3.2.1 + 1)), y3.2.2) () hz3 (lc e0 (lc e3 (lc (eU e11) (lc (eU e12) (lc (eU e13) lN))))) (d1 (eP (p1 pn)))))))))))))))
    refine cX (tX (tX (bH (pkE (p1 pn) (tE ro_dup (pkE (p2 pn) (sf y3.2.2 ?_)))))))
    obtain rfl := sI hz3
    exact aK (y3.1, y3.2.1, y3.2.2) () rfl (lc e8 (lc e9 (lc e11 lN))) (d1 (eP (p1 pn)))
   subst hy3
   refine cS (cB (q2 (zp (mv m0) (zp (asg m0) (q1 (cj hs m0 (fun h29 hs => ?_) (fun h29 hs => ?_)))))))
   ·refine cS (ct_open pick0 ?_)
    rintro ⟨A30, c30⟩
    refine cR (zp bz (rz (sta 0 m4 m0 t5) (q4 (bR (tR (pkE (p1 pn) (tE ro_dup (pkE (p2 pn) (sf z3.2.2 ?_)))))))))
    obtain rfl := sI hs
    exact fa e4 e5 (d4 (eP (p1 (p1 (p2 (p2 (p2 (p1 (p1 pn)))))))))
   refine cS (ct_open pick0 ?_)
   rintro ⟨A31, c31⟩
   refine cR (zp (mv m4) (zp (nc m0) (zp (fd 10 (fo + 10) m0) (zq (ld fo 10 m0 e0 rfl) (zp (op_lss m0 .const) (zp (asg m0) (q1 (ci hs m0 (fun h32 hs => ?_) (fun h32 hs => ?_)))))))))
   ·refine q2 (zq (cq (.cons .const (.cons .const .nil)) (r8end_ok (o := r8end_s 2 0) rfl  _ _) pn) (rz (sta 0 m10 m0 t5) (q4 (bR (tR (pkE (p1 pn) (tE ro_dup (pkE (p2 pn) (sf z3.2.2 ?_)))))))))
    obtain rfl := sI hs
    exact fa e10 e5 (d4 (eP (p1 (p1 (p2 (p2 (p2 (p1 (p1 pn)))))))))
   refine cK (tB (tT (cS (ca 12 ?_))))
   refine zt 0 rfl (mv m10) ?_
   refine zt 1 rfl (nc m0) ?_
   refine zt 2 rfl (fd 10 (fo + 10) m0) ?_
   refine zt 5 rfl (mv m13) ?_
   refine zt 6 rfl (nc m0) ?_
   refine zt 7 rfl (fd 11 (fo + 11) m0) ?_
   refine at_group [3, 4, 8, 9, 10] 1 rfl (by kernel_rfl) rfl ?_
   refine yq (ld fo 10 m3 e0 rfl) (yp (op_mulI m0 .const) (yq (ld fo 11 m2 e0 rfl) (yp (aI m1 m0) (yq (cq (.cons .const (.cons m0 .nil)) (r8end_ok (o := r8end_s 1 (wi ((wi (z3.2.2.j * 64)) + z3.2.2.n))) rfl  _ _) pn) (qN (tz 11 rfl (sta 0 (mU m0) m0 t5) ?_))))))
   refine zz ?_
   refine tT (cQ (pkE (p1 pn) (tE ro_dup (pkE (p2 pn) (sf z3.2.2 ?_)))))
   obtain rfl := sI hs
   exact fa (eU e0) e5 (d4 (eP (p1 (p1 (p2 (p2 (p2 (p1 (p1 pn)))))))))
  refine cK (tT (cS (q2 (zp (mv (mU m6)) (zp (mv (mU m7)) (zp (nc m0) (zp (fd 0 0 m0) (zq (lda 0 m0 e4) (zp (mv m11) (zq (cq (.cons m1 (.cons m0 .nil)) (r6bitmap_ok (o := r6bitmap_s c (Int.tmod (wi (z1.2.2.t + z1.2.2.i)) c.workers)) rfl l _ _) pn) ?_))))))))))
  obtain ⟨r33, hr33, hs⟩ := bF hs
  refine ru (co (.cons m6 (.cons m0 .nil)) (eload_ok hr33 eb _ _) (p5 pn)) ?_
  obtain ⟨r34, hr34, hs⟩ := bO_of hs
  refine zq (cq (.cons m0 .nil) (r1high_ok hr34  _ _) pn) (zp (asg m0) (q3 (zp (mv m0) (zp (mv (mU m18)) (zp (nc m0) (zp (fd 11 (fo + 11) m0) (zq (ld fo 11 m0 e1 rfl) (zp (op_gtr m4 m0) (q1 (ci hs m0 (fun h35 hs => ?_) (fun h35 hs => ?_)))))))))))
  ·refine cR (zp (mv (mU (mU m3))) (zp (mv (mU (mU m4))) (zp (mv (mU m4)) (zp (mv m9) (zp (nc m3) (zp (fd 10 (fo + 10) m0) (rz (st1 fo w10 m0 m3 t1) (zp (nc m4) (zp (fd 11 (fo + 11) m0) (rz (st1 fo w11 m0 m4 t1) (q3 (zp (mv (mU (mU m11))) (zp (nc m0) (zp (fd 9 (fo + 9) m0) (zq (ld fo 9 m0 e1 rfl) (zp (aI m0 .const) (zp (nc m4) (zp (fd 9 (fo + 9) m0) (rz (st1 fo w9 m0 m2 t1) (q3 (zp (asg .const) (q1 (cS (q2 (zp (mv (mU (mU m19))) (zp (nc m0) (zp (fd 9 (fo + 9) m0) (zq (ld fo 9 m0 e1 rfl) (zp (asg m0) (q1 (cE (Ent.picks (p2 .nil)) (cE ro_dup (cE (Ent.picks (p3 (p0 .nil))) (cE (shut (N := itN frC FrV.l fb fo ({ z1.2.2 with i := (wi (z1.2.2.i + 1)), j := (Int.tmod (wi (z1.2.2.t + z1.2.2.i)) c.workers), n := r34 } : FrV)) (A10, c10) rfl) ?_))))))))))))))))))))))))))))))))))
   obtain ⟨z4, hz4, hs⟩ := bO_of hs
   refine ct_cutG (S := Bool × Int × FrV) (G := Unit) (fun zw => z4 = zw) (fun z4 _ => [(9, .bool (z4.1)), (4, vp b1 0), (1, vp fb fo)]) (fun z4 _ => frS fb fo z4.2.2 :: roS encInt 1 A10 c10 z1.2.2.l :: memS eb 11 r33.2 :: roS encInt 1 A2 c2 f.l :: pts b1 0 [.bool false, zi, zi] :: cP eb c l :: pts eb 18 [vi draw] :: [F]) ?_ (fun z4w _ hy4 => (?_ : CT _ _ _ _ _ _ _ _ _))
   ·refine cB (ct_loopK (S := Bool × Int × FrV) (G := Unit) (fun k y4 => r8probe_l4 c k y4 = some z4) (fun _ h => by rw [r8probe_l4] at h; cases h) (fun y4 _ => [(10, vi y4.2.1), (9, .bool (y4.1)), (4, vp b1 0), (0, vp eb 0), (1, vp fb fo)]) (fun y4 _ => frS fb fo y4.2.2 :: roS encInt 1 A10 c10 z1.2.2.l :: memS eb 11 r33.2 :: roS encInt 1 A2 c2 f.l :: pts b1 0 [.bool false, zi, zi] :: cP eb c l :: pts eb 18 [vi draw] :: [F]) 1000000 (false, (wi (z1.2.2.i + 1)), ({ z1.2.2 with i := (wi (z1.2.2.i + 1)), j := (Int.tmod (wi (z1.2.2.t + z1.2.2.i)) c.workers), n := r34 } : FrV)) () hz4 (lc e0 (lc e5 (lc (eU (eU (eU e2))) (lc (eU (eU (eU e3))) (lc (eU (eU (eU e4))) .nil))))) Ent.refl (fun k4 y4 _ hz => ?_))
    clear hz4
    have hz4 := hz; clear hz
    rw [r8probe_l4] at hz4
    refine cS (cS (ct_open pick0 ?_))
    rintro ⟨A36, c36⟩
    refine cR (zp (mv m0) (zp (mv m4) (zp (nc m0) (zp (fd 0 0 m0) (zp (fd 0 0 m0) (zq (ld 0 0 m0 e6 rfl) (zp (op_lss m5 m0) (q1 (ci hz4 m0 (fun h37 hz4 => ?_) (fun h37 hz4 => ?_))))))))))
    ·refine cK (tT (cS (cB (ct_draw (by kernel_rfl) (by kernel_rfl) ?_))))
     refine yp (mv m8) (yp (mv m0) (qt_caseb t0 t0 (fun h38 => ?_) (fun h38 => ?_)))
     ·replace hz4 := ip h38 hz4
      refine yk rfl rfl e0 (yk rfl rfl e1 (yk rfl rfl e2 (yk rfl rfl e3 (yk rfl rfl e4 (yk rfl rfl e5 (yk rfl rfl e6 (yk rfl rfl e7 (yk rfl rfl e8 (yk rfl rfl e9 (yk rfl rfl e10 (yk rfl rfl e11 (yk rfl rfl e12 (yk rfl rfl e13 (yk rfl rfl e14 (yk rfl rfl e15 (yk rfl rfl e16 (yp (op_pick (b := true) m17 .const) (qt_q (asg m0).q wants_none (put_over (pickU pick8) (by kernel_rfl)) ?_))))))))))))))))))
      exact qN (tB (tT (cR (zp (mv (mU m8)) (zp (aI m0 .const) (zo (asg m0) (pickU pick10) (rN (pkE (p1 pn) (tE ro_dup (pkE (p2 pn) (sf y4.2.2 (aK (true, (wi (y4.2.1 + 1)), y4.2.2) () hz4 (lc e0 (lc e3 (lc (eU e11) (lc (eU e12) (lc (eU e13) lN))))) (d1 (eP (p1 pn)))))))))))))))
     replace hz4 := (ifb_f h38).symm.trans hz4
     refine yw (mv m13).q rfl rfl e0 (yw (nc m0).q rfl rfl e1 (yw (fd 12 (fo + 12) m0).q rfl rfl e2 (yw (ld fo 12 m0 e0 rfl) rfl rfl e3 (yw (mv m13).q rfl rfl e4 (yw (aI m1 m0).q rfl rfl e5 (yw (mv m18).q rfl rfl e6 (yw (nc m0).q rfl rfl e7 (yw (fd 0 0 m0).q rfl rfl e8 (yw (fd 0 0 m0).q rfl rfl e9 (yw (ld 0 0 m0 e6 rfl) rfl rfl e10 ?_))))))))))
     obtain ⟨g39, hz4⟩ := gO hz4
     refine yw (op_remI m5 m0 g39).q rfl rfl e11 (yw (mv (mU m5)).q rfl rfl e12 (yw (nc m0).q rfl rfl e13 (yw (fd 6 (fo + 6) m0).q rfl rfl e14 (yw (ld fo 6 m0 e0 rfl) rfl rfl e15 (yw (op_neq m4 m0).q rfl rfl e16 (yp (op_pick (b := false) m17 m0) (qt_q (asg m0).q wants_none (put_over (pickU pick8) (by kernel_rfl)) ?_)))))))
     exact qN (tB (tT (cR (zp (mv (mU m8)) (zp (aI m0 .const) (zo (asg m0) (pickU pick10) (rN (pkE (p1 pn) (tE ro_dup (pkE (p2 pn) (sf y4.2.2 (aK ((decide ((Int.tmod (wi (y4.2.2.t + y4.2.1)) c.workers) ≠ y4.2.2.a)), (wi (y4.2.1 + 1)), y4.2.2) () hz4 (lc e0 (lc e3 (lc (eU e11) (lc (eU e12) (lc (eU e13) lN))))) (d1 (eP (p1 pn)))))))))))))))
    refine cX (tX (tX (bH (pkE (p1 pn) (tE ro_dup (pkE (p2 pn) (sf y4.2.2 ?_)))))))
    obtain rfl := sI hz4
    exact aK (y4.1, y4.2.1, y4.2.2) () rfl (lc e8 (lc e9 (lc e11 lN))) (d1 (eP (p1 pn)))
   subst hy4
   refine cS (cB (q2 (zp (mv m0) (zp (asg m0) (q1 (cj hs m0 (fun h40 hs => ?_) (fun h40 hs => ?_)))))))
   ·refine cS (ct_open pick0 ?_)
    rintro ⟨A41, c41⟩
    refine cR (zp bz (rz (sta 0 m4 m0 t5) (q4 (bR (tR (pkE (p1 pn) (tE ro_dup (pkE (p2 pn) (sf z4.2.2 ?_)))))))))
    obtain rfl := sI hs
    exact fa e4 e5 (d4 (eP (p1 (p1 (p2 (p2 (p2 (p1 (p1 pn)))))))))
   refine cS (ct_open pick0 ?_)
   rintro ⟨A42, c42⟩
   refine cR (zp (mv m4) (zp (nc m0) (zp (fd 10 (fo + 10) m0) (zq (ld fo 10 m0 e0 rfl) (zp (op_lss m0 .const) (zp (asg m0) (q1 (ci hs m0 (fun h43 hs => ?_) (fun h43 hs => ?_)))))))))
   ·refine q2 (zq (cq (.cons .const (.cons .const .nil)) (r8end_ok (o := r8end_s 2 0) rfl  _ _) pn) (rz (sta 0 m10 m0 t5) (q4 (bR (tR (pkE (p1 pn) (tE ro_dup (pkE (p2 pn) (sf z4.2.2 ?_)))))))))
    obtain rfl := sI hs
    exact fa e10 e5 (d4 (eP (p1 (p1 (p2 (p2 (p2 (p1 (p1 pn)))))))))
   refine cK (tB (tT (cS (ca 12 ?_))))
   refine zt 0 rfl (mv m10) ?_
   refine zt 1 rfl (nc m0) ?_
   refine zt 2 rfl (fd 10 (fo + 10) m0) ?_
   refine zt 5 rfl (mv m13) ?_
   refine zt 6 rfl (nc m0) ?_
   refine zt 7 rfl (fd 11 (fo + 11) m0) ?_
   refine at_group [3, 4, 8, 9, 10] 1 rfl (by kernel_rfl) rfl ?_
   refine yq (ld fo 10 m3 e0 rfl) (yp (op_mulI m0 .const) (yq (ld fo 11 m2 e0 rfl) (yp (aI m1 m0) (yq (cq (.cons .const (.cons m0 .nil)) (r8end_ok (o := r8end_s 1 (wi ((wi (z4.2.2.j * 64)) + z4.2.2.n))) rfl  _ _) pn) (qN (tz 11 rfl (sta 0 (mU m0) m0 t5) ?_))))))
   refine zz ?_
   refine tT (cQ (pkE (p1 pn) (tE ro_dup (pkE (p2 pn) (sf z4.2.2 ?_)))))
   obtain rfl := sI hs
   exact fa (eU e0) e5 (d4 (eP (p1 (p1 (p2 (p2 (p2 (p1 (p1 pn)))))))))
  refine cK (tT (q2 (zp (mv (mU (mU m3))) (zp (nc m0) (zp (fd 9 (fo + 9) m0) (zq (ld fo 9 m0 e1 rfl) (zp (aI m0 .const) (zp (nc m4) (zp (fd 9 (fo + 9) m0) (rz (st1 fo w9 m0 m2 t1) (q3 (zp (asg .const) (q1 (cS (q2 (zp (mv (mU (mU m11))) (zp (nc m0) (zp (fd 9 (fo + 9) m0) (zq (ld fo 9 m0 e1 rfl) (zp (asg m0) (q1 (cE (Ent.picks (p2 .nil)) (cE ro_dup (cE (Ent.picks (p3 (p0 .nil))) (cE (shut (N := itN frC FrV.l fb fo ({ z1.2.2 with i := (wi (z1.2.2.i + 1)) } : FrV)) (A10, c10) rfl) ?_)))))))))))))))))))))))))
  obtain ⟨z5, hz5, hs⟩ := bO_of hs
  refine ct_cutG (S := Bool × Int × FrV) (G := Unit) (fun zw => z5 = zw) (fun z5 _ => [(9, .bool (z5.1)), (4, vp b1 0), (1, vp fb fo)]) (fun z5 _ => frS fb fo z5.2.2 :: roS encInt 1 A10 c10 z1.2.2.l :: memS eb 11 r33.2 :: roS encInt 1 A2 c2 f.l :: pts b1 0 [.bool false, zi, zi] :: cP eb c l :: pts eb 18 [vi draw] :: [F]) ?_ (fun z5w _ hy5 => (?_ : CT _ _ _ _ _ _ _ _ _))
  ·refine cB (ct_loopK (S := Bool × Int × FrV) (G := Unit) (fun k y5 => r8probe_l5 c k y5 = some z5) (fun _ h => by rw [r8probe_l5] at h; cases h) (fun y5 _ => [(10, vi y5.2.1), (9, .bool (y5.1)), (4, vp b1 0), (0, vp eb 0), (1, vp fb fo)]) (fun y5 _ => frS fb fo y5.2.2 :: roS encInt 1 A10 c10 z1.2.2.l :: memS eb 11 r33.2 :: roS encInt 1 A2 c2 f.l :: pts b1 0 [.bool false, zi, zi] :: cP eb c l :: pts eb 18 [vi draw] :: [F]) 1000000 (false, (wi (z1.2.2.i + 1)), ({ z1.2.2 with i := (wi (z1.2.2.i + 1)) } : FrV)) () hz5 (lc e0 (lc e5 (lc (eU (eU e14)) (lc (eU (eU e15)) (lc (eU (eU e16)) .nil))))) Ent.refl (fun k5 y5 _ hz => ?_))
   clear hz5
   have hz5 := hz; clear hz
   rw [r8probe_l5] at hz5
   refine cS (cS (ct_open pick0 ?_))
   rintro ⟨A44, c44⟩
   refine cR (zp (mv m0) (zp (mv m4) (zp (nc m0) (zp (fd 0 0 m0) (zp (fd 0 0 m0) (zq (ld 0 0 m0 e6 rfl) (zp (op_lss m5 m0) (q1 (ci hz5 m0 (fun h45 hz5 => ?_) (fun h45 hz5 => ?_))))))))))
   ·refine cK (tT (cS (cB (ct_draw (by kernel_rfl) (by kernel_rfl) ?_))))
    refine yp (mv m8) (yp (mv m0) (qt_caseb t0 t0 (fun h46 => ?_) (fun h46 => ?_)))
    ·replace hz5 := ip h46 hz5
     refine yk rfl rfl e0 (yk rfl rfl e1 (yk rfl rfl e2 (yk rfl rfl e3 (yk rfl rfl e4 (yk rfl rfl e5 (yk rfl rfl e6 (yk rfl rfl e7 (yk rfl rfl e8 (yk rfl rfl e9 (yk rfl rfl e10 (yk rfl rfl e11 (yk rfl rfl e12 (yk rfl rfl e13 (yk rfl rfl e14 (yk rfl rfl e15 (yk rfl rfl e16 (yp (op_pick (b := true) m17 .const) (qt_q (asg m0).q wants_none (put_over (pickU pick8) (by kernel_rfl)) ?_))))))))))))))))))
     exact qN (tB (tT (cR (zp (mv (mU m8)) (zp (aI m0 .const) (zo (asg m0) (pickU pick10) (rN (pkE (p1 pn) (tE ro_dup (pkE (p2 pn) (sf y5.2.2 (aK (true, (wi (y5.2.1 + 1)), y5.2.2) () hz5 (lc e0 (lc e3 (lc (eU e11) (lc (eU e12) (lc (eU e13) lN))))) (d1 (eP (p1 pn)))))))))))))))
    replace hz5 := (ifb_f h46).symm.trans hz5
    refine yw (mv m13).q rfl rfl e0 (yw (nc m0).q rfl rfl e1 (yw (fd 12 (fo + 12) m0).q rfl rfl e2 (yw (ld fo 12 m0 e0 rfl) rfl rfl e3 (yw (mv m13).q rfl rfl e4 (yw (aI m1 m0).q rfl rfl e5 (yw (mv m18).q rfl rfl e6 (yw (nc m0).q rfl rfl e7 (yw (fd 0 0 m0).q rfl rfl e8 (yw (fd 0 0 m0).q rfl rfl e9 (yw (ld 0 0 m0 e6 rfl) rfl rfl e10 ?_))))))))))
    obtain ⟨g47, hz5⟩ := gO hz5
    refine yw (op_remI m5 m0 g47).q rfl rfl e11 (yw (mv (mU m5)).q rfl rfl e12 (yw (nc m0).q rfl rfl e13 (yw (fd 6 (fo + 6) m0).q rfl rfl e14 (yw (ld fo 6 m0 e0 rfl) rfl rfl e15 (yw (op_neq m4 m0).q rfl rfl e16 (yp (op_pick (b := false) m17 m0) (qt_q (asg m0).q wants_none (put_over (pickU pick8) (by kernel_rfl)) ?_)))))))
    exact qN (tB (tT (cR (zp (mv (mU m8)) (zp (aI m0 .const) (zo (asg m0) (pickU pick10) (rN (pkE (p1 pn) (tE ro_dup (pkE (p2 pn) (sf y5.2.2 (aK ((decide ((Int.tmod (wi (y5.2.2.t + y5.2.1)) c.workers) ≠ y5.2.2.a)), (wi (y5.2.1 + 1)), y5.2.2) () hz5 (lc e0 (lc e3 (lc (eU e11) (lc (eU e12) (lc (eU e13) lN))))) (d1 (eP (p1 pn)))))))))))))))
   refine cX (tX (tX (bH (pkE (p1 pn) (tE ro_dup (pkE (p2 pn) (sf y5.2.2 ?_)))))))
   obtain rfl := sI hz5
   exact aK (y5.1, y5.2.1, y5.2.2) () rfl (lc e8 (lc e9 (lc e11 lN))) (d1 (eP (p1 pn)))
  subst hy5
  refine cS (cB (q2 (zp (mv m0) (zp (asg m0) (q1 (cj hs m0 (fun h48 hs => ?_) (fun h48 hs => ?_)))))))
  ·refine cS (ct_open pick0 ?_)
   rintro ⟨A49, c49⟩
   refine cR (zp bz (rz (sta 0 m4 m0 t5) (q4 (bR (tR (pkE (p1 pn) (tE ro_dup (pkE (p2 pn) (sf z5.2.2 ?_)))))))))
   obtain rfl := sI hs
   exact fa e4 e5 (d4 (eP (p1 (p1 (p2 (p2 (p2 (p1 (p1 pn)))))))))
  refine cS (ct_open pick0 ?_)
  rintro ⟨A50, c50⟩
  refine cR (zp (mv m4) (zp (nc m0) (zp (fd 10 (fo + 10) m0) (zq (ld fo 10 m0 e0 rfl) (zp (op_lss m0 .const) (zp (asg m0) (q1 (ci hs m0 (fun h51 hs => ?_) (fun h51 hs => ?_)))))))))
  ·refine q2 (zq (cq (.cons .const (.cons .const .nil)) (r8end_ok (o := r8end_s 2 0) rfl  _ _) pn) (rz (sta 0 m10 m0 t5) (q4 (bR (tR (pkE (p1 pn) (tE ro_dup (pkE (p2 pn) (sf z5.2.2 ?_)))))))))
   obtain rfl := sI hs
   exact fa e10 e5 (d4 (eP (p1 (p1 (p2 (p2 (p2 (p1 (p1 pn)))))))))
  refine cK (tB (tT (cS (ca 12 ?_))))
  refine zt 0 rfl (mv m10) ?_
  refine zt 1 rfl (nc m0) ?_
  refine zt 2 rfl (fd 10 (fo + 10) m0) ?_
  refine zt 5 rfl (mv m13) ?_
  refine zt 6 rfl (nc m0) ?_
  refine zt 7 rfl (fd 11 (fo + 11) m0) ?_
  refine at_group [3, 4, 8, 9, 10] 1 rfl (by kernel_rfl) rfl ?_
  refine yq (ld fo 10 m3 e0 rfl) (yp (op_mulI m0 .const) (yq (ld fo 11 m2 e0 rfl) (yp (aI m1 m0) (yq (cq (.cons .const (.cons m0 .nil)) (r8end_ok (o := r8end_s 1 (wi ((wi (z5.2.2.j * 64)) + z5.2.2.n))) rfl  _ _) pn) (qN (tz 11 rfl (sta 0 (mU m0) m0 t5) ?_))))))
  refine zz ?_
  refine tT (cQ (pkE (p1 pn) (tE ro_dup (pkE (p2 pn) (sf z5.2.2 ?_)))))
  obtain rfl := sI hs
  exact fa (eU e0) e5 (d4 (eP (p1 (p1 (p2 (p2 (p2 (p1 (p1 pn)))))))))
 refine cK (tT (q2 (zp (asg .const) (q1 (cS (q2 (zp (asg .const) (q1 (cE (Ent.picks (p1 .nil)) (cE ro_dup (cE (Ent.picks (p2 (p0 .nil))) (cE (shut (N := itN frC FrV.l fb fo f) (A2, c2) rfl) ?_))))))))))))
 obtain ⟨z6, hz6, hs⟩ := bO_of hs
 refine ct_cutG (S := Int × Int) (G := Unit) (fun zw => z6 = zw) (fun z6 _ => [(5, vi z6.1), (4, vp b1 0), (0, vp eb 0), (1, vp fb fo)]) (fun z6 _ => frS fb fo f :: roS encInt 1 A2 c2 f.l :: pts b1 0 [.bool false, zi, zi] :: cP eb c l :: memS eb 11 m :: pts eb 18 [vi draw] :: [F]) ?_ (fun z6w _ hy6 => (?_ : CT _ _ _ _ _ _ _ _ _))
 ·refine cB (ct_loopK (S := Int × Int) (G := Unit) (fun k y6 => r8probe_l6 c f k y6 = some z6) (fun _ h => by rw [r8probe_l6] at h; cases h) (fun y6 _ => [(6, vi y6.2), (5, vi y6.1), (4, vp b1 0), (0, vp eb 0), (1, vp fb fo)]) (fun y6 _ => frS fb fo f :: roS encInt 1 A2 c2 f.l :: pts b1 0 [.bool false, zi, zi] :: cP eb c l :: memS eb 11 m :: pts eb 18 [vi draw] :: [F]) 1000000 (0, 0) () hz6 (lc e0 (lc e1 (lc e7 (lc e8 (lc e9 .nil))))) Ent.refl (fun k6 y6 _ hz => ?_))
  clear hz6
  have hz6 := hz; clear hz
  rw [r8probe_l6] at hz6
  refine cS (cS (ct_open pick0 ?_))
  rintro ⟨A52, c52⟩
  refine cR (zp (mv m0) (zp (mv m4) (zp (nc m0) (zp (fd 0 0 m0) (zp (fd 0 0 m0) (zq (ld 0 0 m0 e4 rfl) (zp (op_lss m5 m0) (q1 (ci hz6 m0 (fun h53 hz6 => ?_) (fun h53 hz6 => ?_))))))))))
  ·refine cK (tT (cS (ct_cut (X := Unit) (fun _ => True) (fun _ => [(5, vi ((if y6.2 ≠ f.a then (wi (y6.1 + 1)) else y6.1))), (52, .bool (decide (y6.2 ≠ f.a))), (51, vi f.a), (50, vp fb (fo + 6)), (49, vp fb fo), (48, vp fb fo), (47, vi y6.2), (44, .bool (decide (y6.2 < c.workers))), (43, vi c.workers), (42, vp eb 0), (41, vp eb 0), (40, vp eb 0), (39, vp eb 0), (38, vi y6.2), (6, vi y6.2), (4, vp b1 0), (0, vp eb 0), (1, vp fb fo)]) (fun _ => pts fb fo [vi f.kind, vi f.line, vi f.q.top, vi f.q.bottom, vi f.q.ring, vi f.q.cap, vi f.a, vi f.b, vi f.d, vi f.i, vi f.j, vi f.n, vi f.t, vu f.u, vu f.v, vu f.w, vu f.x, .slice A52 f.l.length c52] :: roS encInt 1 A52 c52 f.l :: roS encInt 1 A2 c2 f.l :: pts b1 0 [.bool false, zi, zi] :: cP eb c l :: memS eb 11 m :: pts eb 18 [vi draw] :: [F]) ?_ (fun _ _ => (?_ : CT _ _ _ _ _ _ _ _ _)))))
   ·refine cB (q2 (zp (mv m7) (zp (mv m12) (zp (nc m0) (zp (fd 6 (fo + 6) m0) (zq (ld fo 6 m0 e0 rfl) (zp (op_neq m4 m0) (q1 (ct_if m0 (fun h54 => ?_) (fun h54 => ?_))))))))))
    ·exact cR (zp (mv m14) (zp (aI m0 .const) (zo (asg m0) pick16 (rN (tB (et_cut () trivial (.cons e0 (by simp only [eq_true h54, ↓reduceIte, reduceCtorEq, bS]) (lc e3 (lc e4 (lc e5 (lc e6 (lc e7 (lc e8 (lc e9 (lc e10 (lc e11 (lc e12 (lc e13 (lc e14 (lc e15 (lc e16 (lc e17 (lc e18 (lc e19 .nil)))))))))))))))))) Ent.refl))))))
    exact cK (tB (et_cut () trivial (.cons e14 (by simp only [eq_false h54, ↓reduceIte, reduceCtorEq, bS]) (lc e0 (lc e1 (lc e2 (lc e3 (lc e4 (lc e5 (lc e6 (lc e7 (lc e8 (lc e9 (lc e10 (lc e11 (lc e12 (lc e13 (lc e15 (lc e16 (lc e17 .nil)))))))))))))))))) Ent.refl))
   exact cR (zp (mv m14) (zp (aI m0 .const) (zo (asg m0) pick16 (rN (pkE (p1 pn) (tE ro_dup (pkE (p2 pn) (sf f (aK ((if y6.2 ≠ f.a then (wi (y6.1 + 1)) else y6.1), (wi (y6.2 + 1))) () hz6 (lc e0 (lc e3 (lc e17 (lc e18 (lc e19 lN))))) (d1 (eP (p1 pn))))))))))))
  refine cX (tX (tX (bH (pkE (p1 pn) (tE ro_dup (pkE (p2 pn) (sf f ?_)))))))
  obtain rfl := sI hz6
  exact aK (y6.1, y6.2) () rfl (lc e8 (lc e9 (lc e10 (lc e11 lN)))) (d1 (eP (p1 pn)))
 subst hy6
 refine cS (q2 (zp (mv m0) (zp (eqL m0 .const) (q1 (ci hs m0 (fun h55 hs => ?_) (fun h55 hs => ?_))))))
 ·refine cS (ct_open pick0 ?_)
  rintro ⟨A56, c56⟩
  refine cR (zq (cq (.cons .const (.cons .const .nil)) (r8end_ok (o := r8end_s 2 0) rfl  _ _) pn) (rz (sta 0 m4 m0 t3) (q4 (tR (pkE (p1 pn) (tE ro_dup (pkE (p2 pn) (sf f ?_))))))))
  obtain rfl := sI hs
  exact fa e4 e3 (d3 (eP (p1 (p1 (p1 (p1 (p1 (p1 pn))))))))
 refine cK (tT (cS (ct_open pick0 ?_)))
 rintro ⟨A57, c57⟩
 refine ct_draw (by kernel_rfl) (by kernel_rfl) ?_
 refine yp (mv m5) (yp (nc m0) (yp (fd 12 (fo + 12) m0) (yq (ld fo 12 m0 e0 rfl) (yp (mv m9) (yp (nc m0) (yp (fd 9 (fo + 9) m0) (yq (ld fo 9 m0 e0 rfl) (yp (aI m4 m0) (yp (mv m13) (yp (nc m0) (yp (fd 0 0 m0) (yp (fd 0 0 m0) (yq (ld 0 0 m0 e4 rfl) ?_)))))))))))))
 obtain ⟨g58, hs⟩ := gO hs
 refine yp (op_remI m5 m0 g58) (yp (asg m0) (qN (tT (cS (q2 (zp (mv m0) (zp (mv (mU m2)) (zp (nc m0) (zp (fd 6 (fo + 6) m0) (zq (ld fo 6 m0 e0 rfl) (zp (eqL m4 m0) (q1 (ci hs m0 (fun h59 hs => ?_) (fun h59 hs => ?_))))))))))))))
 ·refine q2 (zp (mv (mU m7)) (zp (nc m0) (zp (fd 9 (fo + 9) m0) (zq (ld fo 9 m0 e0 rfl) (zp (aI m0 .const) (zp (nc m4) (zp (fd 9 (fo + 9) m0) (rz (st1 fo w9 m0 m2 t0) (q1 (ct_draw (by kernel_rfl) (by kernel_rfl) ?_))))))))))
  refine yp (mv (mU m14)) (yp (nc m0) (yp (fd 12 (fo + 12) m0) (yq (ld fo 12 m0 e0 rfl) (yp (mv (mU m18)) (yp (nc m0) (yp (fd 9 (fo + 9) m0) (yq (ld fo 9 m0 e0 rfl) (yp (aI m4 m0) (yp (mv (mU (mU m2))) (yp (nc m0) (yp (fd 0 0 m0) (yp (fd 0 0 m0) (yq (ld 0 0 m0 e4 rfl) ?_)))))))))))))
  obtain ⟨g60, hs⟩ := gO hs
  refine yp (op_remI m5 m0 g60) (qt_q (asg m0).q wants_none (put_over (pickU pick8) (by kernel_rfl)) ?_)
  refine qN (tT (cS (q2 (zp (mv (mU (mU m8))) (zp (mv (mU (mU m9))) (zp (nc m0) (zp (fd 0 0 m0) (zq (lda 0 m0 e4) (zp (mv m5) (zq (cq (.cons m1 (.cons m0 .nil)) (r6bitmap_ok (o := r6bitmap_s c (Int.tmod (wi (f.t + (wi (f.i + 1)))) c.workers)) rfl l _ _) pn) ?_))))))))))
  obtain ⟨r61, hr61, hs⟩ := bF hs
  refine ru (co (.cons m6 (.cons m0 .nil)) (eload_ok hr61 eb _ _) (p5 pn)) ?_
  obtain ⟨r62, hr62, hs⟩ := bO_of hs
  refine zq (cq (.cons m0 .nil) (r1high_ok hr62  _ _) pn) (zp (asg m0) (q3 (zp (mv m0) (zp (mv (mU (mU (mU m0)))) (zp (nc m0) (zp (fd 11 (fo + 11) m0) (zq (ld fo 11 m0 e1 rfl) (zp (op_gtr m4 m0) (q1 (ci hs m0 (fun h63 hs => ?_) (fun h63 hs => ?_)))))))))))
  ·refine cR (zp (mv (mU (mU (mU m5)))) (zp (mv (mU (mU (mU m6)))) (zp (mv m18) (zp (mv m9) (zp (nc m3) (zp (fd 10 (fo + 10) m0) (rz (st1 fo w10 m0 m3 t1) (zp (nc m4) (zp (fd 11 (fo + 11) m0) (rz (st1 fo w11 m0 m4 t1) (q3 (zp (mv (mU (mU (mU m13)))) (zp (nc m0) (zp (fd 9 (fo + 9) m0) (zq (ld fo 9 m0 e1 rfl) (zp (aI m0 .const) (zp (nc m4) (zp (fd 9 (fo + 9) m0) (rz (st1 fo w9 m0 m2 t1) (q3 (zp (asg .const) (q1 (cS (q2 (zp (mv (mU (mU (mU (mU m1))))) (zp (nc m0) (zp (fd 9 (fo + 9) m0) (zq (ld fo 9 m0 e1 rfl) (zp (asg m0) (q1 (cE (Ent.picks (p2 .nil)) (cE ro_dup (cE (Ent.picks (p3 (p0 .nil))) (cE (shut (N := itN frC FrV.l fb fo ({ f with i := (wi ((wi (f.i + 1)) + 1)), j := (Int.tmod (wi (f.t + (wi (f.i + 1)))) c.workers), n := r62 } : FrV)) (A57, c57) rfl) ?_))))))))))))))))))))))))))))))))))
   obtain ⟨z7, hz7, hs⟩ := bO_of hs
   refine ct_cutG (S := Bool × Int × FrV) (G := Unit) (fun zw => z7 = zw) (fun z7 _ => [(9, .bool (z7.1)), (4, vp b1 0), (1, vp fb fo)]) (fun z7 _ => frS fb fo z7.2.2 :: roS encInt 1 A57 c57 f.l :: memS eb 11 r61.2 :: roS encInt 1 A2 c2 f.l :: pts b1 0 [.bool false, zi, zi] :: cP eb c l :: pts eb 18 [vi draw] :: [F]) ?_ (fun z7w _ hy7 => (?_ : CT _ _ _ _ _ _ _ _ _))
   ·refine cB (ct_loopK (S := Bool × Int × FrV) (G := Unit) (fun k y7 => r8probe_l7 c k y7 = some z7) (fun _ h => by rw [r8probe_l7] at h; cases h) (fun y7 _ => [(10, vi y7.2.1), (9, .bool (y7.1)), (4, vp b1 0), (0, vp eb 0), (1, vp fb fo)]) (fun y7 _ => frS fb fo y7.2.2 :: roS encInt 1 A57 c57 f.l :: memS eb 11 r61.2 :: roS encInt 1 A2 c2 f.l :: pts b1 0 [.bool false, zi, zi] :: cP eb c l :: pts eb 18 [vi draw] :: [F]) 1000000 (false, (wi ((wi (f.i + 1)) + 1)), ({ f with i := (wi ((wi (f.i + 1)) + 1)), j := (Int.tmod (wi (f.t + (wi (f.i + 1)))) c.workers), n := r62 } : FrV)) () hz7 (lc e0 (lc e5 (lc (eU (eU (eU (eU e4)))) (lc (eU (eU (eU (eU e5)))) (lc (eU (eU (eU (eU e6)))) .nil))))) Ent.refl (fun k7 y7 _ hz => ?_))
    clear hz7
    have hz7 := hz; clear hz
    rw [r8probe_l7] at hz7
    refine cS (cS (ct_open pick0 ?_))
    rintro ⟨A64, c64⟩
    refine cR (zp (mv m0) (zp (mv m4) (zp (nc m0) (zp (fd 0 0 m0) (zp (fd 0 0 m0) (zq (ld 0 0 m0 e6 rfl) (zp (op_lss m5 m0) (q1 (ci hz7 m0 (fun h65 hz7 => ?_) (fun h65 hz7 => ?_))))))))))
    ·refine cK (tT (cS (cB (ct_draw (by kernel_rfl) (by kernel_rfl) ?_))))
     refine yp (mv m8) (yp (mv m0) (qt_caseb t0 t0 (fun h66 => ?_) (fun h66 => ?_)))
     ·replace hz7 := ip h66 hz7
      refine yk rfl rfl e0 (yk rfl rfl e1 (yk rfl rfl e2 (yk rfl rfl e3 (yk rfl rfl e4 (yk rfl rfl e5 (yk rfl rfl e6 (yk rfl rfl e7 (yk rfl rfl e8 (yk rfl rfl e9 (yk rfl rfl e10 (yk rfl rfl e11 (yk rfl rfl e12 (yk rfl rfl e13 (yk rfl rfl e14 (yk rfl rfl e15 (yk rfl rfl e16 (yp (op_pick (b := true) m17 .const) (qt_q (asg m0).q wants_none (put_over (pickU pick8) (by kernel_rfl)) ?_))))))))))))))))))
      exact qN (tB (tT (cR (zp (mv (mU m8)) (zp (aI m0 .const) (zo (asg m0) (pickU pick10) (rN (pkE (p1 pn) (tE ro_dup (pkE (p2 pn) (sf y7.2.2 (aK (true, (wi (y7.2.1 + 1)), y7.2.2) () hz7 (lc e0 (lc e3 (lc (eU e11) (lc (eU e12) (lc (eU e13) lN))))) (d1 (eP (p1 pn)))))))))))))))
     replace hz7 := (ifb_f h66).symm.trans hz7
     refine yw (mv m13).q rfl rfl e0 (yw (nc m0).q rfl rfl e1 (yw (fd 12 (fo + 12) m0).q rfl rfl e2 (yw (ld fo 12 m0 e0 rfl) rfl rfl e3 (yw (mv m13).q rfl rfl e4 (yw (aI m1 m0).q rfl rfl e5 (yw (mv m18).q rfl rfl e6 (yw (nc m0).q rfl rfl e7 (yw (fd 0 0 m0).q rfl rfl e8 (yw (fd 0 0 m0).q rfl rfl e9 (yw (ld 0 0 m0 e6 rfl) rfl rfl e10 ?_))))))))))
     obtain ⟨g67, hz7⟩ := gO hz7
     refine yw (op_remI m5 m0 g67).q rfl rfl e11 (yw (mv (mU m5)).q rfl rfl e12 (yw (nc m0).q rfl rfl e13 (yw (fd 6 (fo + 6) m0).q rfl rfl e14 (yw (ld fo 6 m0 e0 rfl) rfl rfl e15 (yw (op_neq m4 m0).q rfl rfl e16 (yp (op_pick (b := false) m17 m0) (qt_q (asg m0).q wants_none (put_over (pickU pick8) (by kernel_rfl)) ?_)))))))
     exact qN (tB (tT (cR (zp (mv (mU m8)) (zp (aI m0 .const) (zo (asg m0) (pickU pick10) (rN (pkE (p1 pn) (tE ro_dup (pkE (p2 pn) (sf y7.2.2 (aK ((decide ((Int.tmod (wi (y7.2.2.t + y7.2.1)) c.workers) ≠ y7.2.2.a)), (wi (y7.2.1 + 1)), y7.2.2) () hz7 (lc e0 (lc e3 (lc (eU e11) (lc (eU e12) (lc (eU e13) lN))))) (d1 (eP (p1 pn)))))))))))))))
    refine cX (tX (tX (bH (pkE (p1 pn) (tE ro_dup (pkE (p2 pn) (sf y7.2.2 ?_)))))))
    obtain rfl := sI hz7
    exact aK (y7.1, y7.2.1, y7.2.2) () rfl (lc e8 (lc e9 (lc e11 lN))) (d1 (eP (p1 pn)))
   subst hy7
   refine cS (cB (q2 (zp (mv m0) (zp (asg m0) (q1 (cj hs m0 (fun h68 hs => ?_) (fun h68 hs => ?_)))))))
   ·refine cS (ct_open pick0 ?_)
    rintro ⟨A69, c69⟩
    refine cR (zp bz (rz (sta 0 m4 m0 t5) (q4 (bR (tR (pkE (p1 pn) (tE ro_dup (pkE (p2 pn) (sf z7.2.2 ?_)))))))))
    obtain rfl := sI hs
    exact fa e4 e5 (d4 (eP (p1 (p1 (p2 (p2 (p2 (p1 (p1 pn)))))))))
   refine cS (ct_open pick0 ?_)
   rintro ⟨A70, c70⟩
   refine cR (zp (mv m4) (zp (nc m0) (zp (fd 10 (fo + 10) m0) (zq (ld fo 10 m0 e0 rfl) (zp (op_lss m0 .const) (zp (asg m0) (q1 (ci hs m0 (fun h71 hs => ?_) (fun h71 hs => ?_)))))))))
   ·refine q2 (zq (cq (.cons .const (.cons .const .nil)) (r8end_ok (o := r8end_s 2 0) rfl  _ _) pn) (rz (sta 0 m10 m0 t5) (q4 (bR (tR (pkE (p1 pn) (tE ro_dup (pkE (p2 pn) (sf z7.2.2 ?_)))))))))
    obtain rfl := sI hs
    exact fa e10 e5 (d4 (eP (p1 (p1 (p2 (p2 (p2 (p1 (p1 pn)))))))))
   refine cK (tB (tT (cS (ca 12 ?_))))
   refine zt 0 rfl (mv m10) ?_
   refine zt 1 rfl (nc m0) ?_
   refine zt 2 rfl (fd 10 (fo + 10) m0) ?_
   refine zt 5 rfl (mv m13) ?_
   refine zt 6 rfl (nc m0) ?_
   refine zt 7 rfl (fd 11 (fo + 11) m0) ?_
   refine at_group [3, 4, 8, 9, 10] 1 rfl (by kernel_rfl) rfl ?_
   refine yq (ld fo 10 m3 e0 rfl) (yp (op_mulI m0 .const) (yq (ld fo 11 m2 e0 rfl) (yp (aI m1 m0) (yq (cq (.cons .const (.cons m0 .nil)) (r8end_ok (o := r8end_s 1 (wi ((wi (z7.2.2.j * 64)) + z7.2.2.n))) rfl  _ _) pn) (qN (tz 11 rfl (sta 0 (mU m0) m0 t5) ?_))))))
   refine zz ?_
   refine tT (cQ (pkE (p1 pn) (tE ro_dup (pkE (p2 pn) (sf z7.2.2 ?_)))))
   obtain rfl := sI hs
   exact fa (eU e0) e5 (d4 (eP (p1 (p1 (p2 (p2 (p2 (p1 (p1 pn)))))))))
  refine cK (tT (q2 (zp (mv (mU (mU (mU m5)))) (zp (nc m0) (zp (fd 9 (fo + 9) m0) (zq (ld fo 9 m0 e1 rfl) (zp (aI m0 .const) (zp (nc m4) (zp (fd 9 (fo + 9) m0) (rz (st1 fo w9 m0 m2 t1) (q3 (zp (asg .const) (q1 (cS (q2 (zp (mv (mU (mU (mU m13)))) (zp (nc m0) (zp (fd 9 (fo + 9) m0) (zq (ld fo 9 m0 e1 rfl) (zp (asg m0) (q1 (cE (Ent.picks (p2 .nil)) (cE ro_dup (cE (Ent.picks (p3 (p0 .nil))) (cE (shut (N := itN frC FrV.l fb fo ({ f with i := (wi ((wi (f.i + 1)) + 1)) } : FrV)) (A57, c57) rfl) ?_)))))))))))))))))))))))))
  obtain ⟨z8, hz8, hs⟩ := bO_of hs
  refine ct_cutG (S := Bool × Int × FrV) (G := Unit) (fun zw => z8 = zw) (fun z8 _ => [(9, .bool (z8.1)), (4, vp b1 0), (1, vp fb fo)]) (fun z8 _ => frS fb fo z8.2.2 :: roS encInt 1 A57 c57 f.l :: memS eb 11 r61.2 :: roS encInt 1 A2 c2 f.l :: pts b1 0 [.bool false, zi, zi] :: cP eb c l :: pts eb 18 [vi draw] :: [F]) ?_ (fun z8w _ hy8 => (?_ : CT _ _ _ _ _ _ _ _ _))
  ·refine cB (ct_loopK (S := Bool × Int × FrV) (G := Unit) (fun k y8 => r8probe_l8 c k y8 = some z8) (fun _ h => by rw [r8probe_l8] at h; cases h) (fun y8 _ => [(10, vi y8.2.1), (9, .bool (y8.1)), (4, vp b1 0), (0, vp eb 0), (1, vp fb fo)]) (fun y8 _ => frS fb fo y8.2.2 :: roS encInt 1 A57 c57 f.l :: memS eb 11 r61.2 :: roS encInt 1 A2 c2 f.l :: pts b1 0 [.bool false, zi, zi] :: cP eb c l :: pts eb 18 [vi draw] :: [F]) 1000000 (false, (wi ((wi (f.i + 1)) + 1)), ({ f with i := (wi ((wi (f.i + 1)) + 1)) } : FrV)) () hz8 (lc e0 (lc e5 (lc (eU (eU (eU e16))) (lc (eU (eU (eU e17))) (lc (eU (eU (eU e18))) .nil))))) Ent.refl (fun k8 y8 _ hz => ?_))
   clear hz8
   have hz8 := hz; clear hz
   rw [r8probe_l8] at hz8
   refine cS (cS (ct_open pick0 ?_))
   rintro ⟨A72, c72⟩
   refine cR (zp (mv m0) (zp (mv m4) (zp (nc m0) (zp (fd 0 0 m0) (zp (fd 0 0 m0) (zq (ld 0 0 m0 e6 rfl) (zp (op_lss m5 m0) (q1 (ci hz8 m0 (fun h73 hz8 => ?_) (fun h73 hz8 => ?_))))))))))
   ·refine cK (tT (cS (cB (ct_draw (by kernel_rfl) (by kernel_rfl) ?_))))
    refine yp (mv m8) (yp (mv m0) (qt_caseb t0 t0 (fun h74 => ?_) (fun h74 => ?_)))
    ·replace hz8 := ip h74 hz8
     refine yk rfl rfl e0 (yk rfl rfl e1 (yk rfl rfl e2 (yk rfl rfl e3 (yk rfl rfl e4 (yk rfl rfl e5 (yk rfl rfl e6 (yk rfl rfl e7 (yk rfl rfl e8 (yk rfl rfl e9 (yk rfl rfl e10 (yk rfl rfl e11 (yk rfl rfl e12 (yk rfl rfl e13 (yk rfl rfl e14 (yk rfl rfl e15 (yk rfl rfl e16 (yp (op_pick (b := true) m17 .const) (qt_q (asg m0).q wants_none (put_over (pickU pick8) (by kernel_rfl)) ?_))))))))))))))))))
     exact qN (tB (tT (cR (zp (mv (mU m8)) (zp (aI m0 .const) (zo (asg m0) (pickU pick10) (rN (pkE (p1 pn) (tE ro_dup (pkE (p2 pn) (sf y8.2.2 (aK (true, (wi (y8.2.1 + 1)), y8.2.2) () hz8 (lc e0 (lc e3 (lc (eU e11) (lc (eU e12) (lc (eU e13) lN))))) (d1 (eP (p1 pn)))))))))))))))
    replace hz8 := (ifb_f h74).symm.trans hz8
    refine yw (mv m13).q rfl rfl e0 (yw (nc m0).q rfl rfl e1 (yw (fd 12 (fo + 12) m0).q rfl rfl e2 (yw (ld fo 12 m0 e0 rfl) rfl rfl e3 (yw (mv m13).q rfl rfl e4 (yw (aI m1 m0).q rfl rfl e5 (yw (mv m18).q rfl rfl e6 (yw (nc m0).q rfl rfl e7 (yw (fd 0 0 m0).q rfl rfl e8 (yw (fd 0 0 m0).q rfl rfl e9 (yw (ld 0 0 m0 e6 rfl) rfl rfl e10 ?_))))))))))
    obtain ⟨g75, hz8⟩ := gO hz8
    refine yw (op_remI m5 m0 g75).q rfl rfl e11 (yw (mv (mU m5)).q rfl rfl e12 (yw (nc m0).q rfl rfl e13 (yw (fd 6 (fo + 6) m0).q rfl rfl e14 (yw (ld fo 6 m0 e0 rfl) rfl rfl e15 (yw (op_neq m4 m0).q rfl rfl e16 (yp (op_pick (b := false) m17 m0) (qt_q (asg m0).q wants_none (put_over (pickU pick8) (by kernel_rfl)) ?_)))))))
    exact qN (tB (tT (cR (zp (mv (mU m8)) (zp (aI m0 .const) (zo (asg m0) (pickU pick10) (rN (pkE (p1 pn) (tE ro_dup (pkE (p2 pn) (sf y8.2.2 (aK ((decide ((Int.tmod (wi (y8.2.2.t + y8.2.1)) c.workers) ≠ y8.2.2.a)), (wi (y8.2.1 + 1)), y8.2.2) () hz8 (lc e0 (lc e3 (lc (eU e11) (lc (eU e12) (lc (eU e13) lN))))) (d1 (eP (p1 pn)))))))))))))))
   refine cX (tX (tX (bH (pkE (p1 pn) (tE ro_dup (pkE (p2 pn) (sf y8.2.2 ?_)))))))
   obtain rfl := sI hz8
   exact aK (y8.1, y8.2.1, y8.2.2) () rfl (lc e8 (lc e9 (lc e11 lN))) (d1 (eP (p1 pn)))
  subst hy8
  refine cS (cB (q2 (zp (mv m0) (zp (asg m0) (q1 (cj hs m0 (fun h76 hs => ?_) (fun h76 hs => ?_)))))))
  ·refine cS (ct_open pick0 ?_)
   rintro ⟨A77, c77⟩
   refine cR (zp bz (rz (sta 0 m4 m0 t5) (q4 (bR (tR (pkE (p1 pn) (tE ro_dup (pkE (p2 pn) (sf z8.2.2 ?_)))))))))
   obtain rfl := sI hs
   exact fa e4 e5 (d4 (eP (p1 (p1 (p2 (p2 (p2 (p1 (p1 pn)))))))))
  refine cS (ct_open pick0 ?_)
  rintro ⟨A78, c78⟩
  refine cR (zp (mv m4) (zp (nc m0) (zp (fd 10 (fo + 10) m0) (zq (ld fo 10 m0 e0 rfl) (zp (op_lss m0 .const) (zp (asg m0) (q1 (ci hs m0 (fun h79 hs => ?_) (fun h79 hs => ?_)))))))))
  ·refine q2 (zq (cq (.cons .const (.cons .const .nil)) (r8end_ok (o := r8end_s 2 0) rfl  _ _) pn) (rz (sta 0 m10 m0 t5) (q4 (bR (tR (pkE (p1 pn) (tE ro_dup (pkE (p2 pn) (sf z8.2.2 ?_)))))))))
   obtain rfl := sI hs
   exact fa e10 e5 (d4 (eP (p1 (p1 (p2 (p2 (p2 (p1 (p1 pn)))))))))
  refine cK (tB (tT (cS (ca 12 ?_))))
  refine zt 0 rfl (mv m10) ?_
  refine zt 1 rfl (nc m0) ?_
  refine zt 2 rfl (fd 10 (fo + 10) m0) ?_
  refine zt 5 rfl (mv m13) ?_
  refine zt 6 rfl (nc m0) ?_
  refine zt 7 rfl (fd 11 (fo + 11) m0) ?_
  refine at_group [3, 4, 8, 9, 10] 1 rfl (by kernel_rfl) rfl ?_
  refine yq (ld fo 10 m3 e0 rfl) (yp (op_mulI m0 .const) (yq (ld fo 11 m2 e0 rfl) (yp (aI m1 m0) (yq (cq (.cons .const (.cons m0 .nil)) (r8end_ok (o := r8end_s 1 (wi ((wi (z8.2.2.j * 64)) + z8.2.2.n))) rfl  _ _) pn) (qN (tz 11 rfl (sta 0 (mU m0) m0 t5) ?_))))))
  refine zz ?_
  refine tT (cQ (pkE (p1 pn) (tE ro_dup (pkE (p2 pn) (sf z8.2.2 ?_)))))
  obtain rfl := sI hs
  exact fa (eU e0) e5 (d4 (eP (p1 (p1 (p2 (p2 (p2 (p1 (p1 pn)))))))))
 refine cK (tT (cS (q2 (zp (mv (mU m6)) (zp (mv (mU m7)) (zp (nc m0) (zp (fd 0 0 m0) (zq (lda 0 m0 e4) (zp (mv m11) (zq (cq (.cons m1 (.cons m0 .nil)) (r6bitmap_ok (o := r6bitmap_s c (Int.tmod (wi (f.t + f.i)) c.workers)) rfl l _ _) pn) ?_))))))))))
 obtain ⟨r80, hr80, hs⟩ := bF hs
 refine ru (co (.cons m6 (.cons m0 .nil)) (eload_ok hr80 eb _ _) (p5 pn)) ?_
 obtain ⟨r81, hr81, hs⟩ := bO_of hs
 refine zq (cq (.cons m0 .nil) (r1high_ok hr81  _ _) pn) (zp (asg m0) (q3 (zp (mv m0) (zp (mv (mU m18)) (zp (nc m0) (zp (fd 11 (fo + 11) m0) (zq (ld fo 11 m0 e1 rfl) (zp (op_gtr m4 m0) (q1 (ci hs m0 (fun h82 hs => ?_) (fun h82 hs => ?_)))))))))))
 ·refine cR (zp (mv (mU (mU m3))) (zp (mv (mU (mU m4))) (zp (mv (mU m4)) (zp (mv m9) (zp (nc m3) (zp (fd 10 (fo + 10) m0) (rz (st1 fo w10 m0 m3 t1) (zp (nc m4) (zp (fd 11 (fo + 11) m0) (rz (st1 fo w11 m0 m4 t1) (q3 (zp (mv (mU (mU m11))) (zp (nc m0) (zp (fd 9 (fo + 9) m0) (zq (ld fo 9 m0 e1 rfl) (zp (aI m0 .const) (zp (nc m4) (zp (fd 9 (fo + 9) m0) (rz (st1 fo w9 m0 m2 t1) (q3 (zp (asg .const) (q1 (cS (q2 (zp (mv (mU (mU m19))) (zp (nc m0) (zp (fd 9 (fo + 9) m0) (zq (ld fo 9 m0 e1 rfl) (zp (asg m0) (q1 (cE (Ent.picks (p2 .nil)) (cE ro_dup (cE (Ent.picks (p3 (p0 .nil))) (cE (shut (N := itN frC FrV.l fb fo ({ f with i := (wi (f.i + 1)), j := (Int.tmod (wi (f.t + f.i)) c.workers), n := r81 } : FrV)) (A57, c57) rfl) ?_))))))))))))))))))))))))))))))))))
  obtain ⟨z9, hz9, hs⟩ := bO_of hs
  refine ct_cutG (S := Bool × Int × FrV) (G := Unit) (fun zw => z9 = zw) (fun z9 _ => [(9, .bool (z9.1)), (4, vp b1 0), (1, vp fb fo)]) (fun z9 _ => frS fb fo z9.2.2 :: roS encInt 1 A57 c57 f.l :: memS eb 11 r80.2 :: roS encInt 1 A2 c2 f.l :: pts b1 0 [.bool false, zi, zi] :: cP eb c l :: pts eb 18 [vi draw] :: [F]) ?_ (fun z9w _ hy9 => (?_ : CT _ _ _ _ _ _ _ _ _))
  ·refine cB (ct_loopK (S := Bool × Int × FrV) (G := Unit) (fun k y9 => r8probe_l9 c k y9 = some z9) (fun _ h => by rw [r8probe_l9] at h; cases h) (fun y9 _ => [(10, vi y9.2.1), (9, .bool (y9.1)), (4, vp b1 0), (0, vp eb 0), (1, vp fb fo)]) (fun y9 _ => frS fb fo y9.2.2 :: roS encInt 1 A57 c57 f.l :: memS eb 11 r80.2 :: roS encInt 1 A2 c2 f.l :: pts b1 0 [.bool false, zi, zi] :: cP eb c l :: pts eb 18 [vi draw] :: [F]) 1000000 (false, (wi (f.i + 1)), ({ f with i := (wi (f.i + 1)), j := (Int.tmod (wi (f.t + f.i)) c.workers), n := r81 } : FrV)) () hz9 (lc e0 (lc e5 (lc (eU (eU (eU e2))) (lc (eU (eU (eU e3))) (lc (eU (eU (eU e4))) .nil))))) Ent.refl (fun k9 y9 _ hz => ?_))
   clear hz9
   have hz9 := hz; clear hz
   rw [r8probe_l9] at hz9
   refine cS (cS (ct_open pick0 ?_))
   rintro ⟨A83, c83⟩
   refine cR (zp (mv m0) (zp (mv m4) (zp (nc m0) (zp (fd 0 0 m0) (zp (fd 0 0 m0) (zq (ld 0 0 m0 e6 rfl) (zp (op_lss m5 m0) (q1 (ci hz9 m0 (fun h84 hz9 => ?_) (fun h84 hz9 => ?_))))))))))
   ·refine cK (tT (cS (cB (ct_draw (by kernel_rfl) (by kernel_rfl) ?_))))
    refine yp (mv m8) (yp (mv m0) (qt_caseb t0 t0 (fun h85 => ?_) (fun h85 => ?_)))
    ·replace hz9 := ip h85 hz9
     refine yk rfl rfl e0 (yk rfl rfl e1 (yk rfl rfl e2 (yk rfl rfl e3 (yk rfl rfl e4 (yk rfl rfl e5 (yk rfl rfl e6 (yk rfl rfl e7 (yk rfl rfl e8 (yk rfl rfl e9 (yk rfl rfl e10 (yk rfl rfl e11 (yk rfl rfl e12 (yk rfl rfl e13 (yk rfl rfl e14 (yk rfl rfl e15 (yk rfl rfl e16 (yp (op_pick (b := true) m17 .const) (qt_q (asg m0).q wants_none (put_over (pickU pick8) (by kernel_rfl)) ?_))))))))))))))))))
     exact qN (tB (tT (cR (zp (mv (mU m8)) (zp (aI m0 .const) (zo (asg m0) (pickU pick10) (rN (pkE (p1 pn) (tE ro_dup (pkE (p2 pn) (sf y9.2.2 (aK (true, (wi (y9.2.1 + 1)), y9.2.2) () hz9 (lc e0 (lc e3 (lc (eU e11) (lc (eU e12) (lc (eU e13) lN))))) (d1 (eP (p1 pn)))))))))))))))
    replace hz9 := (ifb_f h85).symm.trans hz9
    refine yw (mv m13).q rfl rfl e0 (yw (nc m0).q rfl rfl e1 (yw (fd 12 (fo + 12) m0).q rfl rfl e2 (yw (ld fo 12 m0 e0 rfl) rfl rfl e3 (yw (mv m13).q rfl rfl e4 (yw (aI m1 m0).q rfl rfl e5 (yw (mv m18).q rfl rfl e6 (yw (nc m0).q rfl rfl e7 (yw (fd 0 0 m0).q rfl rfl e8 (yw (fd 0 0 m0).q rfl rfl e9 (yw (ld 0 0 m0 e6 rfl) rfl rfl e10 ?_))))))))))
    obtain ⟨g86, hz9⟩ := gO hz9
    refine yw (op_remI m5 m0 g86).q rfl rfl e11 (yw (mv (mU m5)).q rfl rfl e12 (yw (nc m0).q rfl rfl e13 (yw (fd 6 (fo + 6) m0).q rfl rfl e14 (yw (ld fo 6 m0 e0 rfl) rfl rfl e15 (yw (op_neq m4 m0).q rfl rfl e16 (yp (op_pick (b := false) m17 m0) (qt_q (asg m0).q wants_none (put_over (pickU pick8) (by kernel_rfl)) ?_)))))))
    exact qN (tB (tT (cR (zp (mv (mU m8)) (zp (aI m0 .const) (zo (asg m0) (pickU pick10) (rN (pkE (p1 pn) (tE ro_dup (pkE (p2 pn) (sf y9.2.2 (aK ((decide ((Int.tmod (wi (y9.2.2.t + y9.2.1)) c.workers) ≠ y9.2.2.a)), (wi (y9.2.1 + 1)), y9.2.2) () hz9 (lc e0 (lc e3 (lc (eU e11) (lc (eU e12) (lc (eU e13) lN))))) (d1 (eP (p1 pn)))))))))))))))
   refine cX (tX (tX (bH (pkE (p1 pn) (tE ro_dup (pkE (p2 pn) (sf y9.2.2 ?_)))))))
   obtain rfl := sI hz9
   exact aK (y9.1, y9.2.1, y9.2.2) () rfl (lc e8 (lc e9 (lc e11 lN))) (d1 (eP (p1 pn)))
  subst hy9
  refine cS (cB (q2 (zp (mv m0) (zp (asg m0) (q1 (cj hs m0 (fun h87 hs => ?_) (fun h87 hs => ?_)))))))
  ·refine cS (ct_open pick0 ?_)
   rintro ⟨A88, c88⟩
   refine cR (zp bz (rz (sta 0 m4 m0 t5) (q4 (bR (tR (pkE (p1 pn) (tE ro_dup (pkE (p2 pn) (sf z9.2.2 ?_)))))))))
   obtain rfl := sI hs
   exact fa e4 e5 (d4 (eP (p1 (p1 (p2 (p2 (p2 (p1 (p1 pn)))))))))
  refine cS (ct_open pick0 ?_)
  rintro ⟨A89, c89⟩
  refine cR (zp (mv m4) (zp (nc m0) (zp (fd 10 (fo + 10) m0) (zq (ld fo 10 m0 e0 rfl) (zp (op_lss m0 .const) (zp (asg m0) (q1 (ci hs m0 (fun h90 hs => ?_) (fun h90 hs => ?_)))))))))
  ·refine q2 (zq (cq (.cons .const (.cons .const .nil)) (r8end_ok (o := r8end_s 2 0) rfl  _ _) pn) (rz (sta 0 m10 m0 t5) (q4 (bR (tR (pkE (p1 pn) (tE ro_dup (pkE (p2 pn) (sf z9.2.2 ?_)))))))))
   obtain rfl := sI hs
   exact fa e10 e5 (d4 (eP (p1 (p1 (p2 (p2 (p2 (p1 (p1 pn)))))))))
  refine cK (tB (tT (cS (ca 12 ?_))))
  refine zt 0 rfl (mv m10) ?_
  refine zt 1 rfl (nc m0) ?_
  refine zt 2 rfl (fd 10 (fo + 10) m0) ?_
  refine zt 5 rfl (mv m13) ?_
  refine zt 6 rfl (nc m0) ?_
  refine zt 7 rfl (fd 11 (fo + 11) m0) ?_
  refine at_group [3, 4, 8, 9, 10] 1 rfl (by kernel_rfl) rfl ?_
  refine yq (ld fo 10 m3 e0 rfl) (yp (op_mulI m0 .const) (yq (ld fo 11 m2 e0 rfl) (yp (aI m1 m0) (yq (cq (.cons .const (.cons m0 .nil)) (r8end_ok (o := r8end_s 1 (wi ((wi (z9.2.2.j * 64)) + z9.2.2.n))) rfl  _ _) pn) (qN (tz 11 rfl (sta 0 (mU m0) m0 t5) ?_))))))
  refine zz ?_
  refine tT (cQ (pkE (p1 pn) (tE ro_dup (pkE (p2 pn) (sf z9.2.2 ?_)))))
  obtain rfl := sI hs
  exact fa (eU e0) e5 (d4 (eP (p1 (p1 (p2 (p2 (p2 (p1 (p1 pn)))))))))
 refine cK (tT (q2 (zp (mv (mU (mU m3))) (zp (nc m0) (zp (fd 9 (fo + 9) m0) (zq (ld fo 9 m0 e1 rfl) (zp (aI m0 .const) (zp (nc m4) (zp (fd 9 (fo + 9) m0) (rz (st1 fo w9 m0 m2 t1) (q3 (zp (asg .const) (q1 (cS (q2 (zp (mv (mU (mU m11))) (zp (nc m0) (zp (fd 9 (fo + 9) m0) (zq (ld fo 9 m0 e1 rfl) (zp (asg m0) (q1 (cE (Ent.picks (p2 .nil)) (cE ro_dup (cE (Ent.picks (p3 (p0 .nil))) (cE (shut (N := itN frC FrV.l fb fo ({ f with i := (wi (f.i + 1)) } : FrV)) (A57, c57) rfl) ?_)))))))))))))))))))))))))
 obtain ⟨z10, hz10, hs⟩ := bO_of hs
 refine ct_cutG (S := Bool × Int × FrV) (G := Unit) (fun zw => z10 = zw) (fun z10 _ => [(9, .bool (z10.1)), (4, vp b1 0), (1, vp fb fo)]) (fun z10 _ => frS fb fo z10.2.2 :: roS encInt 1 A57 c57 f.l :: memS eb 11 r80.2 :: roS encInt 1 A2 c2 f.l :: pts b1 0 [.bool false, zi, zi] :: cP eb c l :: pts eb 18 [vi draw] :: [F]) ?_ (fun z10w _ hy10 => (?_ : CT _ _ _ _ _ _ _ _ _))
 ·refine cB (ct_loopK (S := Bool × Int × FrV) (G := Unit) (fun k y10 => r8probe_l10 c k y10 = some z10) (fun _ h => by rw [r8probe_l10] at h; cases h) (fun y10 _ => [(10, vi y10.2.1), (9, .bool (y10.1)), (4, vp b1 0), (0, vp eb 0), (1, vp fb fo)]) (fun y10 _ => frS fb fo y10.2.2 :: roS encInt 1 A57 c57 f.l :: memS eb 11 r80.2 :: roS encInt 1 A2 c2 f.l :: pts b1 0 [.bool false, zi, zi] :: cP eb c l :: pts eb 18 [vi draw] :: [F]) 1000000 (false, (wi (f.i + 1)), ({ f with i := (wi (f.i + 1)) } : FrV)) () hz10 (lc e0 (lc e5 (lc (eU (eU e14)) (lc (eU (eU e15)) (lc (eU (eU e16)) .nil))))) Ent.refl (fun k10 y10 _ hz => ?_))
  clear hz10
  have hz10 := hz; clear hz
  rw [r8probe_l10] at hz10
  refine cS (cS (ct_open pick0 ?_))
  rintro ⟨A91, c91⟩
  refine cR (zp (mv m0) (zp (mv m4) (zp (nc m0) (zp (fd 0 0 m0) (zp (fd 0 0 m0) (zq (ld 0 0 m0 e6 rfl) (zp (op_lss m5 m0) (q1 (ci hz10 m0 (fun h92 hz10 => ?_) (fun h92 hz10 => ?_))))))))))
  ·refine cK (tT (cS (cB (ct_draw (by kernel_rfl) (by kernel_rfl) ?_))))
   refine yp (mv m8) (yp (mv m0) (qt_caseb t0 t0 (fun h93 => ?_) (fun h93 => ?_)))
   ·replace hz10 := ip h93 hz10
    refine yk rfl rfl e0 (yk rfl rfl e1 (yk rfl rfl e2 (yk rfl rfl e3 (yk rfl rfl e4 (yk rfl rfl e5 (yk rfl rfl e6 (yk rfl rfl e7 (yk rfl rfl e8 (yk rfl rfl e9 (yk rfl rfl e10 (yk rfl rfl e11 (yk rfl rfl e12 (yk rfl rfl e13 (yk rfl rfl e14 (yk rfl rfl e15 (yk rfl rfl e16 (yp (op_pick (b := true) m17 .const) (qt_q (asg m0).q wants_none (put_over (pickU pick8) (by kernel_rfl)) ?_))))))))))))))))))
    exact qN (tB (tT (cR (zp (mv (mU m8)) (zp (aI m0 .const) (zo (asg m0) (pickU pick10) (rN (pkE (p1 pn) (tE ro_dup (pkE (p2 pn) (sf y10.2.2 (aK (true, (wi (y10.2.1 + 1)), y10.2.2) () hz10 (lc e0 (lc e3 (lc (eU e11) (lc (eU e12) (lc (eU e13) lN))))) (d1 (eP (p1 pn)))))))))))))))
   replace hz10 := (ifb_f h93).symm.trans hz10
   refine yw (mv m13).q rfl rfl e0 (yw (nc m0).q rfl rfl e1 (yw (fd 12 (fo + 12) m0).q rfl rfl e2 (yw (ld fo 12 m0 e0 rfl) rfl rfl e3 (yw (mv m13).q rfl rfl e4 (yw (aI m1 m0).q rfl rfl e5 (yw (mv m18).q rfl rfl e6 (yw (nc m0).q rfl rfl e7 (yw (fd 0 0 m0).q rfl rfl e8 (yw (fd 0 0 m0).q rfl rfl e9 (yw (ld 0 0 m0 e6 rfl) rfl rfl e10 ?_))))))))))
   obtain ⟨g94, hz10⟩ := gO hz10
   refine yw (op_remI m5 m0 g94).q rfl rfl e11 (yw (mv (mU m5)).q rfl rfl e12 (yw (nc m0).q rfl rfl e13 (yw (fd 6 (fo + 6) m0).q rfl rfl e14 (yw (ld fo 6 m0 e0 rfl) rfl rfl e15 (yw (op_neq m4 m0).q rfl rfl e16 (yp (op_pick (b := false) m17 m0) (qt_q (asg m0).q wants_none (put_over (pickU pick8) (by kernel_rfl)) ?_)))))))
   exact qN (tB (tT (cR (zp (mv (mU m8)) (zp (aI m0 .const) (zo (asg m0) (pickU pick10) (rN (pkE (p1 pn) (tE ro_dup (pkE (p2 pn) (sf y10.2.2 (aK ((decide ((Int.tmod (wi (y10.2.2.t + y10.2.1)) c.workers) ≠ y10.2.2.a)), (wi (y10.2.1 + 1)), y10.2.2) () hz10 (lc e0 (lc e3 (lc (eU e11) (lc (eU e12) (lc (eU e13) lN))))) (d1 (eP (p1 pn)))))))))))))))
  refine cX (tX (tX (bH (pkE (p1 pn) (tE ro_dup (pkE (p2 pn) (sf y10.2.2 ?_)))))))
  obtain rfl := sI hz10
  exact aK (y10.1, y10.2.1, y10.2.2) () rfl (lc e8 (lc e9 (lc e11 lN))) (d1 (eP (p1 pn)))
 subst hy10
 refine cS (cB (q2 (zp (mv m0) (zp (asg m0) (q1 (cj hs m0 (fun h95 hs => ?_) (fun h95 hs => ?_)))))))
 ·refine cS (ct_open pick0 ?_)
  rintro ⟨A96, c96⟩
  refine cR (zp bz (rz (sta 0 m4 m0 t5) (q4 (bR (tR (pkE (p1 pn) (tE ro_dup (pkE (p2 pn) (sf z10.2.2 ?_)))))))))
  obtain rfl := sI hs
  exact fa e4 e5 (d4 (eP (p1 (p1 (p2 (p2 (p2 (p1 (p1 pn)))))))))
 refine cS (ct_open pick0 ?_)
 rintro ⟨A97, c97⟩
 refine cR (zp (mv m4) (zp (nc m0) (zp (fd 10 (fo + 10) m0) (zq (ld fo 10 m0 e0 rfl) (zp (op_lss m0 .const) (zp (asg m0) (q1 (ci hs m0 (fun h98 hs => ?_) (fun h98 hs => ?_)))))))))
 ·refine q2 (zq (cq (.cons .const (.cons .const .nil)) (r8end_ok (o := r8end_s 2 0) rfl  _ _) pn) (rz (sta 0 m10 m0 t5) (q4 (bR (tR (pkE (p1 pn) (tE ro_dup (pkE (p2 pn) (sf z10.2.2 ?_)))))))))
  obtain rfl := sI hs
  exact fa e10 e5 (d4 (eP (p1 (p1 (p2 (p2 (p2 (p1 (p1 pn)))))))))
 refine cK (tB (tT (cS (ca 12 ?_))))
 refine zt 0 rfl (mv m10) ?_
 refine zt 1 rfl (nc m0) ?_
 refine zt 2 rfl (fd 10 (fo + 10) m0) ?_
 refine zt 5 rfl (mv m13) ?_
 refine zt 6 rfl (nc m0) ?_
 refine zt 7 rfl (fd 11 (fo + 11) m0) ?_
 refine at_group [3, 4, 8, 9, 10] 1 rfl (by kernel_rfl) rfl ?_
 refine yq (ld fo 10 m3 e0 rfl) (yp (op_mulI m0 .const) (yq (ld fo 11 m2 e0 rfl) (yp (aI m1 m0) (yq (cq (.cons .const (.cons m0 .nil)) (r8end_ok (o := r8end_s 1 (wi ((wi (z10.2.2.j * 64)) + z10.2.2.n))) rfl  _ _) pn) (qN (tz 11 rfl (sta 0 (mU m0) m0 t5) ?_))))))
 refine zz ?_
 refine tT (cQ (pkE (p1 pn) (tE ro_dup (pkE (p2 pn) (sf z10.2.2 ?_)))))
 obtain rfl := sI hs
 exact fa (eU e0) e5 (d4 (eP (p1 (p1 (p2 (p2 (p2 (p1 (p1 pn)))))))))
end Go.Proofs.YtpbkelpokpglaaaGreat
