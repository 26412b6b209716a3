/- The reference, function by function: what a line runs. -/
import Derived.Test.YtpbkelpokpglaaaGreatKm
import Derived.Test.YtpbkelpokpglaaaGreatKk
import Derived.Test.YtpbkelpokpglaaaGreatRows
set_option linter.all false
namespace Go.Proofs.YtpbkelpokpglaaaGreat
open Go Go.RowKit
set_option maxRecDepth 100000
set_option maxHeartbeats 2000000
variable {c : Cfg} {m : MemV} {now draw : Int} {recs : List RecV} {evs : List Ev} {f : FrV}
def r8enterdrain_s (f : FrV) : FrV × Bool :=
 if f.line = 2 then
  ((⟨8, 0, (⟨0, 0, 0, 0⟩ : QV), f.a, 0, 0, 0, 0, 0, 0, 0, 0, 0, 0, []⟩ : FrV), true)
 else
 if f.line = 3 then
  ((⟨11, 0, (⟨0, 0, 0, 0⟩ : QV), f.a, 0, 0, 0, 0, 0, 0, 0, 0, 0, 0, []⟩ : FrV), true)
 else
 if f.line = 5 then
  ((⟨5, 0, (⟨0, 0, 0, 0⟩ : QV), f.a, f.t, f.n, 0, 0, 0, 0, 0, 0, 0, 0, []⟩ : FrV), true)
 else
 if f.line = 6 then
  ((⟨9, 0, (⟨0, 0, 0, 0⟩ : QV), 0, 0, 0, 0, 0, 0, 0, 0, 0, 0, 0, []⟩ : FrV), true)
 else
 if f.line = 7 then
  ((⟨20, 0, (⟨0, 0, 0, 0⟩ : QV), f.a, f.j, 0, 0, 0, 0, 0, 0, 0, 0, 0, []⟩ : FrV), true)
 else
 ((⟨0, 0, (⟨0, 0, 0, 0⟩ : QV), 0, 0, 0, 0, 0, 0, 0, 0, 0, 0, 0, []⟩ : FrV), false)
theorem r8enterdrain_ok {o : FrV × Bool} (hs : r8enterdrain_s f = o) (fb fo : Nat)  (B : Nat) (W : World)  : Fn_ Tryz.prog 114 #[vp fb fo] B W [frS fb fo f] (X := Option Addr × Nat) (fun x => .tuple #[.agg #[vi o.1.kind, vi o.1.line, vi o.1.q.top, vi o.1.q.bottom, vi o.1.q.ring, vi o.1.q.cap, vi o.1.a, vi o.1.b, vi o.1.d, vi o.1.i, vi o.1.j, vi o.1.n, vi o.1.t, vu o.1.u, vu o.1.v, vu o.1.w, vu o.1.x, .slice x.1 o.1.l.length x.2], .bool (o.2)]) (fun x => [roS encInt 1 x.1 x.2 o.1.l, frS fb fo f]) := by
 unfold r8enterdrain_s at hs
 refine fe1 Tryz.func114 52 rfl (fun F => ?_)
 refine q2 (rn (al [zi, zi, zi, zi, zi, zi, zi, zi, zi, zi, zi, zi, zi, vu 0, vu 0, vu 0, vu 0, .slice none 0 0]) ?_)
 rintro b1
 refine zp (asg .const) (q1 (cS (cS (ct_open pick1 ?_))))
 rintro ⟨A2, c2⟩
 refine cR (zp (mv m2) (zp (nc m0) (zp (fd 1 (fo + 1) m0) (zq (ld fo 1 m0 e0 rfl) (q1 (cB (q2 (zp (eqL m0 .const) (zp (asg m0) (q1 (ci hs m0 (fun h3 hs => ?_) (fun h3 hs => ?_))))))))))))
 ·refine q2 (zp (mv m8) (zp (nc m0) (zp (fd 6 (fo + 6) m0) (zq (ld fo 6 m0 e0 rfl) (zp (op_build (v := .agg #[vi 8, zi, zi, zi, zi, zi, vi f.a, zi, zi, zi, zi, zi, zi, vu 0, vu 0, vu 0, vu 0, .slice none 0 0]) (.cons .const (.cons m0 .nil)) (fun _ => by kernel_rfl)) (rz (sta 0 m12 m0 t2) (zo (asg .const) pick11 (q4 (bR (tR (pkE (p1 pn) (tE ro_dup (pkE (p2 pn) (sf f (tE (ro_nil (enc := encInt) (sz := 1) (A := none) (c := 0)) ?_)))))))))))))))
  subst hs
  exact fab ((none : Option Addr), 0) e12 e3 e0 (d2 (eP (p2 (p2 pn))))
 refine q2 (zp (eqL m2 .const) (zp (asg m0) (q1 (ci hs m0 (fun h4 hs => ?_) (fun h4 hs => ?_)))))
 ·refine q2 (zp (mv m10) (zp (nc m0) (zp (fd 6 (fo + 6) m0) (zq (ld fo 6 m0 e0 rfl) (zp (op_build (v := .agg #[vi 11, zi, zi, zi, zi, zi, vi f.a, zi, zi, zi, zi, zi, zi, vu 0, vu 0, vu 0, vu 0, .slice none 0 0]) (.cons .const (.cons m0 .nil)) (fun _ => by kernel_rfl)) (rz (sta 0 m14 m0 t2) (zo (asg .const) pick13 (q4 (bR (tR (pkE (p1 pn) (tE ro_dup (pkE (p2 pn) (sf f (tE (ro_nil (enc := encInt) (sz := 1) (A := none) (c := 0)) ?_)))))))))))))))
  subst hs
  exact fab ((none : Option Addr), 0) e14 e3 e0 (d2 (eP (p2 (p2 pn))))
 refine q2 (zp (eqL m4 .const) (zp (asg m0) (q1 (ci hs m0 (fun h5 hs => ?_) (fun h5 hs => ?_)))))
 ·refine cS (ca 15 ?_)
  refine zt 0 rfl (mv m12) ?_
  refine zt 1 rfl (nc m0) ?_
  refine zt 2 rfl (fd 6 (fo + 6) m0) ?_
  refine zt 4 rfl (mv m15) ?_
  refine zt 5 rfl (nc m0) ?_
  refine zt 6 rfl (fd 12 (fo + 12) m0) ?_
  refine zt 8 rfl (mv m18) ?_
  refine zt 9 rfl (nc m0) ?_
  refine zt 10 rfl (fd 11 (fo + 11) m0) ?_
  refine at_group [3, 7, 11, 12] 2 rfl (by kernel_rfl) rfl ?_
  refine yq (ld fo 6 m6 e0 rfl) (yq (ld fo 12 m4 e0 rfl) (yq (ld fo 11 m2 e0 rfl) (yp (op_build (v := .agg #[vi 5, zi, zi, zi, zi, zi, vi f.a, vi f.t, vi f.n, zi, zi, zi, zi, vu 0, vu 0, vu 0, vu 0, .slice none 0 0]) (.cons .const (.cons m2 (.cons m1 (.cons m0 .nil)))) (fun _ => by kernel_rfl)) (qN (tz 13 rfl (sta 0 (mU m4) m0 t2) ?_)))))
  refine at_take 14 (by kernel_rfl) rfl rfl rfl (asg .const) wants_none (put_over (pickU pick3) (by kernel_rfl)) ?_
  refine zz ?_
  refine tT (cQ (bR (tR (pkE (p1 pn) (tE ro_dup (pkE (p2 pn) (sf f (tE (ro_nil (enc := encInt) (sz := 1) (A := none) (c := 0)) ?_))))))))
  subst hs
  exact fab ((none : Option Addr), 0) (eU e4) e3 e0 (d2 (eP (p2 (p2 pn))))
 refine q2 (zp (eqL m6 .const) (zp (asg m0) (q1 (ci hs m0 (fun h6 hs => ?_) (fun h6 hs => ?_)))))
 ·refine q2 (zp (op_build (v := .agg #[vi 9, zi, zi, zi, zi, zi, zi, zi, zi, zi, zi, zi, zi, vu 0, vu 0, vu 0, vu 0, .slice none 0 0]) (.cons .const .nil) (fun _ => by kernel_rfl)) (rz (sta 0 m14 m0 t2) (zo (asg .const) pick13 (q4 (bR (tR (pkE (p1 pn) (tE ro_dup (pkE (p2 pn) (sf f (tE (ro_nil (enc := encInt) (sz := 1) (A := none) (c := 0)) ?_)))))))))))
  subst hs
  exact fab ((none : Option Addr), 0) e14 e3 e0 (d2 (eP (p2 (p2 pn))))
 refine q2 (zp (eqL m8 .const) (zp (asg m0) (q1 (ci hs m0 (fun h7 hs => ?_) (fun h7 hs => ?_)))))
 ·refine cS (ca 11 ?_)
  refine zt 0 rfl (mv m16) ?_
  refine zt 1 rfl (nc m0) ?_
  refine zt 2 rfl (fd 6 (fo + 6) m0) ?_
  refine zt 4 rfl (mv m19) ?_
  refine zt 5 rfl (nc m0) ?_
  refine zt 6 rfl (fd 10 (fo + 10) m0) ?_
  refine at_group [3, 7, 8] 2 rfl (by kernel_rfl) rfl ?_
  refine yq (ld fo 6 m3 e0 rfl) (yq (ld fo 10 m1 e0 rfl) (yp (op_build (v := .agg #[vi 20, zi, zi, zi, zi, zi, vi f.a, vi f.j, zi, zi, zi, zi, zi, vu 0, vu 0, vu 0, vu 0, .slice none 0 0]) (.cons .const (.cons m1 (.cons m0 .nil))) (fun _ => by kernel_rfl)) (qN (tz 9 rfl (sta 0 (mU m4) m0 t2) ?_))))
  refine at_take 10 (by kernel_rfl) rfl rfl rfl (asg .const) wants_none (put_over (pickU pick3) (by kernel_rfl)) ?_
  refine zz ?_
  refine tT (cQ (bR (tR (pkE (p1 pn) (tE ro_dup (pkE (p2 pn) (sf f (tE (ro_nil (enc := encInt) (sz := 1) (A := none) (c := 0)) ?_))))))))
  subst hs
  exact fab ((none : Option Addr), 0) (eU e4) e3 e0 (d2 (eP (p2 (p2 pn))))
 refine cK (tB (tT (q2 (zp (op_build (v := .agg #[zi, zi, zi, zi, zi, zi, zi, zi, zi, zi, zi, zi, zi, vu 0, vu 0, vu 0, vu 0, .slice none 0 0]) .nil (fun _ => by kernel_rfl)) (rz (sta 0 m16 m0 t2) (zo (asg .const) pick15 (q4 (pkE (p1 pn) (tE ro_dup (pkE (p2 pn) (sf f (tE (ro_nil (enc := encInt) (sz := 1) (A := none) (c := 0)) ?_))))))))))))
 subst hs
 exact fab ((none : Option Addr), 0) e16 e3 e0 (d2 (eP (p2 (p2 pn))))
def r8runframe_s (worker : Int) (task : Int) : FrV :=
 (⟨24, 0, (⟨0, 0, 0, 0⟩ : QV), worker, task, 0, 0, 0, 0, 0, 0, 0, 0, 0, [task]⟩ : FrV)
theorem r8runframe_ok {worker : Int} {task : Int} {o : FrV} (hs : r8runframe_s worker task = o)   (B : Nat) (W : World)  : Fn_ Tryz.prog 160 #[vi worker, vi task] B W [] (X := Option Addr × Nat) (fun x => .agg #[vi o.kind, vi o.line, vi o.q.top, vi o.q.bottom, vi o.q.ring, vi o.q.cap, vi o.a, vi o.b, vi o.d, vi o.i, vi o.j, vi o.n, vi o.t, vu o.u, vu o.v, vu o.w, vu o.x, .slice x.1 o.l.length x.2]) (fun x => [roS encInt 1 x.1 x.2 o.l]) := by
 unfold r8runframe_s at hs
 refine fe2 Tryz.func160 10 rfl (fun F => ?_)
 refine q2 (rn (al [zi, zi, zi, zi, zi, zi, zi, zi, zi, zi, zi, zi, zi, vu 0, vu 0, vu 0, vu 0, .slice none 0 0]) ?_)
 rintro b1
 refine q3 (zp (mv m1) (zp (mv m3) (zp (mv m4) (rn (ot_buildSlice (T' := 3) (us := [vi task]) (.cons m0 .nil) (fun _ => by kernel_rfl)) ?_))))
 rintro b2
 refine zp (op_build (v := .agg #[vi 24, zi, zi, zi, zi, zi, vi worker, vi task, zi, zi, zi, zi, zi, vu 0, vu 0, vu 0, vu 0, .slice (some ⟨b2, 0, none⟩) 1 1]) (.cons .const (.cons m3 (.cons m2 (.cons m0 .nil)))) (fun _ => by kernel_rfl)) (rz (sta 0 m5 m0 t1) (q4 (tE (Ent.cons (rowS_of_pts (n := 1) (sz := 1) (vs := List.map (Value.int .i64) [task]) rfl (by unfold maxLen; omega)) Ent.refl) (et_se (ro_of_ints (enc := encInt) (fun _ => rfl) rfl) ?_))))
 subst hs
 exact et_fn (vs := [.agg #[vi 24, zi, zi, zi, zi, zi, vi worker, vi task, zi, zi, zi, zi, zi, vu 0, vu 0, vu 0, vu 0, .slice (some ⟨b2, 0, none⟩) 1 1]]) (((some ⟨b2, 0, none⟩) : Option Addr), 1) rfl (.cellA (m := 18) (ws := [vi 24, zi, zi, zi, zi, zi, vi worker, vi task, zi, zi, zi, zi, zi, vu 0, vu 0, vu 0, vu 0, .slice (some ⟨b2, 0, none⟩) 1 1]) e5 e1 (by kernel_rfl) rfl rfl .nil) rfl (d1 (eP (p1 pn)))
def r8enterworker_s (c : Cfg) (f : FrV) : FrV × Bool × FrV :=
 if (f.line = 1) ∧ (c.age = 0) then
  ((⟨23, 0, (⟨0, 0, 0, 0⟩ : QV), f.a, 0, 0, 0, 0, 0, 0, 0, 0, 0, 0, []⟩ : FrV), true, ({ f with line := 2 } : FrV))
 else
 if f.line = 1 then
  ((⟨18, 0, (⟨0, 0, 0, 0⟩ : QV), f.a, f.j, 0, 0, 0, 0, 0, 0, 0, 0, 0, []⟩ : FrV), true, f)
 else
 if f.line = 2 then
  ((⟨23, 0, (⟨0, 0, 0, 0⟩ : QV), f.a, 0, 0, 0, 0, 0, 0, 0, 0, 0, 0, []⟩ : FrV), true, f)
 else
 if f.line = 3 then
  ((⟨22, 0, (⟨0, 0, 0, 0⟩ : QV), f.a, 0, (-1), 0, 0, 0, 0, 0, 0, 0, 0, []⟩ : FrV), true, f)
 else
 if f.line = 4 then
  ((⟨21, 0, (⟨0, 0, 0, 0⟩ : QV), f.a, 0, 0, 0, 0, 0, 0, 0, 0, 0, 0, []⟩ : FrV), true, f)
 else
 if f.line = 5 then
  ((⟨2, 0, (r6queue_s c f.i f.d), 0, 0, 0, 0, 0, 0, 0, 0, 0, 0, 0, []⟩ : FrV), true, f)
 else
 if f.line = 6 then
  ((⟨14, 0, (⟨0, 0, 0, 0⟩ : QV), f.a, f.n, 0, 0, 0, 0, 0, 0, 0, 0, 0, []⟩ : FrV), true, f)
 else
 if f.line = 7 then
  bT (r8runframe_s f.a f.n) fun r12 =>
  (r12, true, f)
 else
 if f.line = 8 then
  ((⟨19, 0, (⟨0, 0, 0, 0⟩ : QV), f.a, 0, 0, 0, 0, 0, 0, 0, 0, 0, 0, []⟩ : FrV), true, f)
 else
 ((⟨4, 0, (r6queue_s c f.i f.d), (r6bitmap_s c f.i), f.d, 0, 0, 0, 0, 0, 0, 0, 0, 0, []⟩ : FrV), true, f)
theorem r8enterworker_ok {o : FrV × Bool × FrV} (hs : r8enterworker_s c f = o) (eb : Nat) (l : CfgAt) (fb fo : Nat)  (B : Nat) (W : World)  : Fn_ Tryz.prog 116 #[vp eb 0, vp fb fo] B W [cP eb c l, frS fb fo f] (X := Option Addr × Nat) (fun x => .tuple #[.agg #[vi o.1.kind, vi o.1.line, vi o.1.q.top, vi o.1.q.bottom, vi o.1.q.ring, vi o.1.q.cap, vi o.1.a, vi o.1.b, vi o.1.d, vi o.1.i, vi o.1.j, vi o.1.n, vi o.1.t, vu o.1.u, vu o.1.v, vu o.1.w, vu o.1.x, .slice x.1 o.1.l.length x.2], .bool (o.2.1)]) (fun x => [roS encInt 1 x.1 x.2 o.1.l, cP eb c l, frS fb fo o.2.2]) := by
 unfold r8enterworker_s at hs
 refine fe2 Tryz.func116 130 rfl (fun F => ?_)
 refine q2 (rn (al [zi, zi, zi, zi, zi, zi, zi, zi, zi, zi, zi, zi, zi, vu 0, vu 0, vu 0, vu 0, .slice none 0 0]) ?_)
 rintro b1
 refine zp (asg .const) (q1 (cS (cS (ct_open pick2 ?_))))
 rintro ⟨A2, c2⟩
 refine ct_cut (X := Unit) (fun _ => True) (fun _ => [(18, .bool (decide ((f.line = 1) ∧ (c.age = 0)))), (5, .bool false), (4, vp b1 0), (0, vp eb 0), (1, vp fb fo)]) (fun _ => pts fb fo [vi f.kind, vi f.line, vi f.q.top, vi f.q.bottom, vi f.q.ring, vi f.q.cap, vi f.a, vi f.b, vi f.d, vi f.i, vi f.j, vi f.n, vi f.t, vu f.u, vu f.v, vu f.w, vu f.x, .slice A2 f.l.length c2] :: roS encInt 1 A2 c2 f.l :: pts b1 0 [zi, zi, zi, zi, zi, zi, zi, zi, zi, zi, zi, zi, zi, vu 0, vu 0, vu 0, vu 0, .slice none 0 0] :: cP eb c l :: [F]) ?_ (fun _ _ => (?_ : CT _ _ _ _ _ _ _ _ _))
 ·refine cR (zp (mv m3) (zp (nc m0) (zp (fd 1 (fo + 1) m0) (zq (ld fo 1 m0 e0 rfl) (zp (eqL m0 .const) (zp (mv m0) (rt_case t0 t0 (fun h3 => ?_) (fun h3 => ?_))))))))
  ·exact zw (mv m8).q rfl rfl e0 (zw (nc m0).q rfl rfl e1 (zw (fd 0 0 m0).q rfl rfl e2 (zw (fd 7 7 m0).q rfl rfl e3 (zw (ld 0 7 m0 e3 rfl) rfl rfl e4 (zw (eqL m0 .const).q rfl rfl e5 (zp (op_pick (b := true) m6 m0) (rN (et_cut () trivial (.cons e0 (by simp only [eq_true h3, ↓reduceIte, reduceCtorEq, bS]) (lc e13 (lc e14 (lc e15 (lc e16 .nil))))) Ent.refl))))))))
  exact zk rfl rfl e0 (zk rfl rfl e1 (zk rfl rfl e2 (zk rfl rfl e3 (zk rfl rfl e4 (zk rfl rfl e5 (zp (op_pick (b := false) m6 .const) (rN (et_cut () trivial (.cons e0 (by simp only [eq_false h3, ↓reduceIte, reduceCtorEq, bS]) (lc e13 (lc e14 (lc e15 (lc e16 .nil))))) Ent.refl))))))))
 refine ci hs m0 (fun h4 hs => ?_) (fun h4 hs => ?_)
 ·refine cR (zp (mv m4) (zp (nc m0) (zp (fd 1 (fo + 1) m0) (rz (st1 fo w1 m0 .const t0) (q1 (cS (q2 (zp (mv m7) (zp (nc m0) (zp (fd 1 (fo + 1) m0) (zq (ld fo 1 m0 e0 rfl) (q1 (cB (q2 (zp (op_eqlC (v := false) m0 .const (by decide)) (zp (asg m0) (q1 (ct_false m0 ?_))))))))))))))))))
  refine q2 (zp (op_eqlC (v := true) m2 .const (by decide)) (zp (asg m0) (q1 (ct_true m0 ?_))))
  refine q2 (zp (mv m15) (zp (nc m0) (zp (fd 6 (fo + 6) m0) (zq (ld fo 6 m0 e0 rfl) (zp (op_build (v := .agg #[vi 23, zi, zi, zi, zi, zi, vi f.a, zi, zi, zi, zi, zi, zi, vu 0, vu 0, vu 0, vu 0, .slice none 0 0]) (.cons .const (.cons m0 .nil)) (fun _ => by kernel_rfl)) (rz (sta 0 m18 m0 t2) (zo (asg .const) pick17 (q4 (bR (tR (pkE (p1 pn) (tE ro_dup (pkE (p2 pn) (sf ({ f with line := 2 } : FrV) (tE (ro_nil (enc := encInt) (sz := 1) (A := none) (c := 0)) ?_)))))))))))))))
  subst hs
  exact fab ((none : Option Addr), 0) e18 e3 e0 (d2 (eP (p2 (p2 (p0 (p1 pn))))))
 refine cK (tT (cS (q2 (zp (mv m4) (zp (nc m0) (zp (fd 1 (fo + 1) m0) (zq (ld fo 1 m0 e0 rfl) (q1 (cB (q2 (zp (eqL m0 .const) (zp (asg m0) (q1 (ci hs m0 (fun h5 hs => ?_) (fun h5 hs => ?_)))))))))))))))
 ·refine cS (ca 11 ?_)
  refine zt 0 rfl (mv m10) ?_
  refine zt 1 rfl (nc m0) ?_
  refine zt 2 rfl (fd 6 (fo + 6) m0) ?_
  refine zt 4 rfl (mv m13) ?_
  refine zt 5 rfl (nc m0) ?_
  refine zt 6 rfl (fd 10 (fo + 10) m0) ?_
  refine at_group [3, 7, 8] 2 rfl (by kernel_rfl) rfl ?_
  refine yq (ld fo 6 m3 e0 rfl) (yq (ld fo 10 m1 e0 rfl) (yp (op_build (v := .agg #[vi 18, zi, zi, zi, zi, zi, vi f.a, vi f.j, zi, zi, zi, zi, zi, vu 0, vu 0, vu 0, vu 0, .slice none 0 0]) (.cons .const (.cons m1 (.cons m0 .nil))) (fun _ => by kernel_rfl)) (qN (tz 9 rfl (sta 0 m17 m0 t2) ?_))))
  refine at_take 10 (by kernel_rfl) rfl rfl rfl (asg .const) wants_none (put_over pick16 (by kernel_rfl)) ?_
  refine zz ?_
  refine tT (cQ (bR (tR (pkE (p1 pn) (tE ro_dup (pkE (p2 pn) (sf f (tE (ro_nil (enc := encInt) (sz := 1) (A := none) (c := 0)) ?_))))))))
  subst hs
  exact fab ((none : Option Addr), 0) e17 e3 e0 (d2 (eP (p2 (p2 (p0 (p1 pn))))))
 refine q2 (zp (eqL m2 .const) (zp (asg m0) (q1 (ci hs m0 (fun h6 hs => ?_) (fun h6 hs => ?_)))))
 ·refine q2 (zp (mv m12) (zp (nc m0) (zp (fd 6 (fo + 6) m0) (zq (ld fo 6 m0 e0 rfl) (zp (op_build (v := .agg #[vi 23, zi, zi, zi, zi, zi, vi f.a, zi, zi, zi, zi, zi, zi, vu 0, vu 0, vu 0, vu 0, .slice none 0 0]) (.cons .const (.cons m0 .nil)) (fun _ => by kernel_rfl)) (rz (sta 0 m15 m0 t2) (zo (asg .const) pick14 (q4 (bR (tR (pkE (p1 pn) (tE ro_dup (pkE (p2 pn) (sf f (tE (ro_nil (enc := encInt) (sz := 1) (A := none) (c := 0)) ?_)))))))))))))))
  subst hs
  exact fab ((none : Option Addr), 0) e15 e3 e0 (d2 (eP (p2 (p2 (p0 (p1 pn))))))
 refine q2 (zp (eqL m4 .const) (zp (asg m0) (q1 (ci hs m0 (fun h7 hs => ?_) (fun h7 hs => ?_)))))
 ·refine q2 (zp (mv m14) (zp (nc m0) (zp (fd 6 (fo + 6) m0) (zq (ld fo 6 m0 e0 rfl) (zp (op_build (v := .agg #[vi 22, zi, zi, zi, zi, zi, vi f.a, zi, vi ((-1)), zi, zi, zi, zi, vu 0, vu 0, vu 0, vu 0, .slice none 0 0]) (.cons .const (.cons m0 (.cons .const .nil))) (fun _ => by kernel_rfl)) (rz (sta 0 m17 m0 t2) (zo (asg .const) pick16 (q4 (bR (tR (pkE (p1 pn) (tE ro_dup (pkE (p2 pn) (sf f (tE (ro_nil (enc := encInt) (sz := 1) (A := none) (c := 0)) ?_)))))))))))))))
  subst hs
  exact fab ((none : Option Addr), 0) e17 e3 e0 (d2 (eP (p2 (p2 (p0 (p1 pn))))))
 refine q2 (zp (eqL m6 .const) (zp (asg m0) (q1 (ci hs m0 (fun h8 hs => ?_) (fun h8 hs => ?_)))))
 ·refine q2 (zp (mv m16) (zp (nc m0) (zp (fd 6 (fo + 6) m0) (zq (ld fo 6 m0 e0 rfl) (zp (op_build (v := .agg #[vi 21, zi, zi, zi, zi, zi, vi f.a, zi, zi, zi, zi, zi, zi, vu 0, vu 0, vu 0, vu 0, .slice none 0 0]) (.cons .const (.cons m0 .nil)) (fun _ => by kernel_rfl)) (rz (sta 0 m19 m0 t2) (zo (asg .const) pick18 (q4 (bR (tR (pkE (p1 pn) (tE ro_dup (pkE (p2 pn) (sf f (tE (ro_nil (enc := encInt) (sz := 1) (A := none) (c := 0)) ?_)))))))))))))))
  subst hs
  exact fab ((none : Option Addr), 0) e19 e3 e0 (d2 (eP (p2 (p2 (p0 (p1 pn))))))
 refine q2 (zp (eqL m8 .const) (zp (asg m0) (q1 (ci hs m0 (fun h9 hs => ?_) (fun h9 hs => ?_)))))
 ·refine cS (ca 16 ?_)
  refine zt 0 rfl (mv m17) ?_
  refine zt 1 rfl (nc m0) ?_
  refine zt 2 rfl (fd 0 0 m0) ?_
  refine zt 4 rfl (mv (mU m1)) ?_
  refine zt 5 rfl (nc m0) ?_
  refine zt 6 rfl (fd 9 (fo + 9) m0) ?_
  refine zt 8 rfl (mv (mU m4)) ?_
  refine zt 9 rfl (nc m0) ?_
  refine zt 10 rfl (fd 8 (fo + 8) m0) ?_
  refine at_group [3, 7, 11, 12, 13] 2 rfl (by kernel_rfl) rfl ?_
  refine yq (lda 0 m6 e3) (yq (ld fo 9 m4 e0 rfl) (yq (ld fo 8 m2 e0 rfl) (yq (cq (.cons m2 (.cons m1 (.cons m0 .nil))) (r6queue_ok (o := r6queue_s c f.i f.d) rfl l _ _) pn) (yp (op_build (v := .agg #[vi 2, zi, vi ((r6queue_s c f.i f.d).top), vi ((r6queue_s c f.i f.d).bottom), vi ((r6queue_s c f.i f.d).ring), vi ((r6queue_s c f.i f.d).cap), zi, zi, zi, zi, zi, zi, zi, vu 0, vu 0, vu 0, vu 0, .slice none 0 0]) (.cons .const (.cons m0 .nil)) (fun _ => by kernel_rfl)) (qN (tz 14 rfl (sta 0 (mU m10) m0 t2) ?_))))))
  refine at_take 15 (by kernel_rfl) rfl rfl rfl (asg .const) wants_none (put_over (pickU pick9) (by kernel_rfl)) ?_
  refine zz ?_
  refine tT (cQ (bR (tR (pkE (p1 pn) (tE ro_dup (pkE (p2 pn) (sf f (tE (ro_nil (enc := encInt) (sz := 1) (A := none) (c := 0)) ?_))))))))
  subst hs
  exact fab ((none : Option Addr), 0) (eU e10) e3 e0 (d2 (eP (p2 (p2 (p0 (p1 pn))))))
 refine q2 (zp (eqL m10 .const) (zp (asg m0) (q1 (ci hs m0 (fun h10 hs => ?_) (fun h10 hs => ?_)))))
 ·refine cS (ca 11 ?_)
  refine zt 0 rfl (mv (mU m0)) ?_
  refine zt 1 rfl (nc m0) ?_
  refine zt 2 rfl (fd 6 (fo + 6) m0) ?_
  refine zt 4 rfl (mv (mU m3)) ?_
  refine zt 5 rfl (nc m0) ?_
  refine zt 6 rfl (fd 11 (fo + 11) m0) ?_
  refine at_group [3, 7, 8] 2 rfl (by kernel_rfl) rfl ?_
  refine yq (ld fo 6 m3 e0 rfl) (yq (ld fo 11 m1 e0 rfl) (yp (op_build (v := .agg #[vi 14, zi, zi, zi, zi, zi, vi f.a, vi f.n, zi, zi, zi, zi, zi, vu 0, vu 0, vu 0, vu 0, .slice none 0 0]) (.cons .const (.cons m1 (.cons m0 .nil))) (fun _ => by kernel_rfl)) (qN (tz 9 rfl (sta 0 (mU m7) m0 t2) ?_))))
  refine at_take 10 (by kernel_rfl) rfl rfl rfl (asg .const) wants_none (put_over (pickU pick6) (by kernel_rfl)) ?_
  refine zz ?_
  refine tT (cQ (bR (tR (pkE (p1 pn) (tE ro_dup (pkE (p2 pn) (sf f (tE (ro_nil (enc := encInt) (sz := 1) (A := none) (c := 0)) ?_))))))))
  subst hs
  exact fab ((none : Option Addr), 0) (eU e7) e3 e0 (d2 (eP (p2 (p2 (p0 (p1 pn))))))
 refine q2 (zp (eqL m12 .const) (zp (asg m0) (q1 (ci hs m0 (fun h11 hs => ?_) (fun h11 hs => ?_)))))
 ·refine cS (ca 11 ?_)
  refine zt 0 rfl (mv (mU m2)) ?_
  refine zt 1 rfl (nc m0) ?_
  refine zt 2 rfl (fd 6 (fo + 6) m0) ?_
  refine zt 4 rfl (mv (mU m5)) ?_
  refine zt 5 rfl (nc m0) ?_
  refine zt 6 rfl (fd 11 (fo + 11) m0) ?_
  refine at_group [3, 7] 3 rfl (by kernel_rfl) rfl ?_
  refine yq (ld fo 6 m3 e0 rfl) (yq (ld fo 11 m1 e0 rfl) (qN ?_))
  obtain ⟨r12, hr12, hs⟩ := bF hs
  refine tn 8 rfl (co (.cons m1 (.cons m0 .nil)) (r8runframe_ok hr12  _ _) pn) ?_
  rintro ⟨A13, c13⟩
  refine tz 9 rfl (sta 0 (mU m9) m0 t3) ?_
  refine at_take 10 (by kernel_rfl) rfl rfl rfl (asg .const) wants_none (put_over (pickU pick8) (by kernel_rfl)) ?_
  refine zz ?_
  refine tT (cQ (bR (tR (pkE (p2 pn) (tE ro_dup (pkE (p3 pn) (sf f (pkE (p2 pn) (tE ro_dup ?_)))))))))
  subst hs
  exact fab ((A13 : Option Addr), c13) (eU e9) e4 e0 (d3 (eP (p1 (p2 (p2 (p0 (p1 pn)))))))
 refine q2 (zp (eqL m14 .const) (zp (asg m0) (q1 (ci hs m0 (fun h14 hs => ?_) (fun h14 hs => ?_)))))
 ·refine q2 (zp (mv (mU m4)) (zp (nc m0) (zp (fd 6 (fo + 6) m0) (zq (ld fo 6 m0 e0 rfl) (zp (op_build (v := .agg #[vi 19, zi, zi, zi, zi, zi, vi f.a, zi, zi, zi, zi, zi, zi, vu 0, vu 0, vu 0, vu 0, .slice none 0 0]) (.cons .const (.cons m0 .nil)) (fun _ => by kernel_rfl)) (rz (sta 0 (mU m7) m0 t2) (zo (asg .const) (pickU pick6) (q4 (bR (tR (pkE (p1 pn) (tE ro_dup (pkE (p2 pn) (sf f (tE (ro_nil (enc := encInt) (sz := 1) (A := none) (c := 0)) ?_)))))))))))))))
  subst hs
  exact fab ((none : Option Addr), 0) (eU e7) e3 e0 (d2 (eP (p2 (p2 (p0 (p1 pn))))))
 refine cK (tB (tT (cS (ca 29 ?_))))
 refine zt 0 rfl (mv (mU m3)) ?_
 refine zt 1 rfl (nc m0) ?_
 refine zt 2 rfl (fd 0 0 m0) ?_
 refine zt 4 rfl (mv (mU m7)) ?_
 refine zt 5 rfl (nc m0) ?_
 refine zt 6 rfl (fd 9 (fo + 9) m0) ?_
 refine zt 9 rfl (mv (mU m10)) ?_
 refine zt 10 rfl (nc m0) ?_
 refine zt 11 rfl (fd 8 (fo + 8) m0) ?_
 refine zt 13 rfl (mv (mU m12)) ?_
 refine zt 14 rfl (nc m0) ?_
 refine zt 15 rfl (fd 0 0 m0) ?_
 refine zt 17 rfl (mv (mU m16)) ?_
 refine zt 18 rfl (nc m0) ?_
 refine zt 19 rfl (fd 9 (fo + 9) m0) ?_
 refine zt 21 rfl (mv (mU m19)) ?_
 refine zt 22 rfl (nc m0) ?_
 refine zt 23 rfl (fd 8 (fo + 8) m0) ?_
 refine at_group [3, 7, 8, 12, 16, 20, 24, 25, 26] 2 rfl (by kernel_rfl) rfl ?_
 refine yq (lda 0 m15 e3) (yq (ld fo 9 m13 e0 rfl) (yq (cq (.cons m1 (.cons m0 .nil)) (r6bitmap_ok (o := r6bitmap_s c f.i) rfl l _ _) pn) (yq (ld fo 8 m12 e0 rfl) (yq (lda 0 m10 e3) (yq (ld fo 9 m8 e0 rfl) (yq (ld fo 8 m6 e0 rfl) (yq (cq (.cons m2 (.cons m1 (.cons m0 .nil))) (r6queue_ok (o := r6queue_s c f.i f.d) rfl l _ _) pn) (yp (op_build (v := .agg #[vi 4, zi, vi ((r6queue_s c f.i f.d).top), vi ((r6queue_s c f.i f.d).bottom), vi ((r6queue_s c f.i f.d).ring), vi ((r6queue_s c f.i f.d).cap), vi ((r6bitmap_s c f.i)), vi f.d, zi, zi, zi, zi, zi, vu 0, vu 0, vu 0, vu 0, .slice none 0 0]) (.cons .const (.cons m5 (.cons m4 (.cons m0 .nil)))) (fun _ => by kernel_rfl)) (qN (tz 27 rfl (sta 0 (mU (mU m9)) m0 t2) ?_))))))))))
 refine at_take 28 (by kernel_rfl) rfl rfl rfl (asg .const) wants_none (put_over (pickU (pickU pick8)) (by kernel_rfl)) ?_
 refine zz ?_
 refine tT (cQ (pkE (p1 pn) (tE ro_dup (pkE (p2 pn) (sf f (tE (ro_nil (enc := encInt) (sz := 1) (A := none) (c := 0)) ?_))))))
 subst hs
 exact fab ((none : Option Addr), 0) (eU (eU e9)) e3 e0 (d2 (eP (p2 (p2 (p0 (p1 pn))))))
def r8enterclient_s (c : Cfg) (f : FrV) : Option (FrV × Bool) :=
 if ((c.subs.length : Nat) : Int) ≤ f.i then
  some ((⟨0, 0, (⟨0, 0, 0, 0⟩ : QV), 0, 0, 0, 0, 0, 0, 0, 0, 0, 0, 0, []⟩ : FrV), false)
 else
 if 0 ≤ f.i ∧ f.i < (c.subs.length : Int) then
 if f.line = 1 then
  some ((⟨7, 0, (⟨0, 0, 0, 0⟩ : QV), c.workers, 0, 0, 0, 0, 0, 0, 0, 0, 0, 0, []⟩ : FrV), true)
 else
 if f.line = 3 then
  some ((⟨12, 0, (⟨0, 0, 0, 0⟩ : QV), 0, 0, 0, 0, 0, 0, 0, 0, 0, 0, 0, []⟩ : FrV), true)
 else
 if f.line = 6 then
  some ((⟨10, 0, (⟨0, 0, 0, 0⟩ : QV), (at_ c.subs f.i).deadline, f.n, 0, 0, 0, 0, 0, 0, 0, 0, 0, []⟩ : FrV), true)
 else
 if f.line = 8 then
  some ((⟨9, 0, (⟨0, 0, 0, 0⟩ : QV), 0, 0, 0, 0, 0, 0, 0, 0, 0, 0, 0, []⟩ : FrV), true)
 else
 if f.line = 9 then
  some ((⟨20, 0, (⟨0, 0, 0, 0⟩ : QV), c.workers, (at_ c.subs f.i).level, 0, 0, 0, 0, 0, 0, 0, 0, 0, []⟩ : FrV), true)
 else
 some ((⟨0, 0, (⟨0, 0, 0, 0⟩ : QV), 0, 0, 0, 0, 0, 0, 0, 0, 0, 0, 0, []⟩ : FrV), false)
 else none
theorem r8enterclient_ok {o : FrV × Bool} (hs : r8enterclient_s c f = some o) (eb : Nat) (l : CfgAt) (pl : List (Option Addr × Nat)) (fb fo : Nat)  (B : Nat) (W : World)  : Fn_ Tryz.prog 117 #[vp eb 0, vp fb fo] B W [cP eb c l, cfgL c l pl, frS fb fo f] (X := Option Addr × Nat) (fun x => .tuple #[.agg #[vi o.1.kind, vi o.1.line, vi o.1.q.top, vi o.1.q.bottom, vi o.1.q.ring, vi o.1.q.cap, vi o.1.a, vi o.1.b, vi o.1.d, vi o.1.i, vi o.1.j, vi o.1.n, vi o.1.t, vu o.1.u, vu o.1.v, vu o.1.w, vu o.1.x, .slice x.1 o.1.l.length x.2], .bool (o.2)]) (fun x => [roS encInt 1 x.1 x.2 o.1.l, cP eb c l, cfgL c l pl, frS fb fo f]) := by
 unfold r8enterclient_s at hs
 refine fe2 Tryz.func117 68 rfl (fun F => ?_)
 refine q2 (rn (al [zi, zi, zi, zi, zi, zi, zi, zi, zi, zi, zi, zi, zi, vu 0, vu 0, vu 0, vu 0, .slice none 0 0]) ?_)
 rintro b1
 refine zp (asg .const) (q1 (cS (cS (ct_open pick3 ?_))))
 rintro ⟨A2, c2⟩
 refine ct_draw (by kernel_rfl) (by kernel_rfl) ?_
 refine yp (mv m3) (yp (nc m0) (yp (fd 9 (fo + 9) m0) (yq (ld fo 9 m0 e0 rfl) (yp (mv m6) (yp (nc m0) (yp (fd 0 0 m0) (yp (fd 10 10 m0) (yq (ld 0 10 m0 e3 rfl) (yp (op_len m0 Tryz.underlying26) (yp (op_geq m6 m0) (qN (tT (ci hs m0 (fun h3 hs => ?_) (fun h3 hs => ?_))))))))))))))
 ·refine q2 (zp (op_build (v := .agg #[zi, zi, zi, zi, zi, zi, zi, zi, zi, zi, zi, zi, zi, vu 0, vu 0, vu 0, vu 0, .slice none 0 0]) .nil (fun _ => by kernel_rfl)) (rz (sta 0 m13 m0 t2) (zo (asg .const) pick12 (q4 (tR (pkE (p1 pn) (tE ro_dup (pkE (p2 pn) (sf f (tE (ro_nil (enc := encInt) (sz := 1) (A := none) (c := 0)) ?_))))))))))
  obtain rfl := sI hs
  exact fab ((none : Option Addr), 0) e13 e3 e0 (d2 (eP (p2 (p2 (p0 (p1 (p1 pn)))))))
 refine cK (tT (cS ?_))
 obtain ⟨g4, hs⟩ := gO hs
 refine ct_cutG (S := Nat) (G := Unit) (fun _ => True) (fun b5 _ => [(6, vp b5 0), (5, .bool false), (4, vp b1 0), (0, vp eb 0), (1, vp fb fo)]) (fun b5 _ => pts b5 0 [vi ((at_ c.subs f.i).prog), vi ((at_ c.subs f.i).level), vi ((at_ c.subs f.i).deadline)] :: pts fb fo [vi f.kind, vi f.line, vi f.q.top, vi f.q.bottom, vi f.q.ring, vi f.q.cap, vi f.a, vi f.b, vi f.d, vi f.i, vi f.j, vi f.n, vi f.t, vu f.u, vu f.v, vu f.w, vu f.x, .slice A2 f.l.length c2] :: roS encInt 1 A2 c2 f.l :: pts b1 0 [zi, zi, zi, zi, zi, zi, zi, zi, zi, zi, zi, zi, zi, vu 0, vu 0, vu 0, vu 0, .slice none 0 0] :: cP eb c l :: cfgL c l pl :: [F]) ?_ (fun b5 _ _ => (?_ : CT _ _ _ _ _ _ _ _ _))
 ·refine ca 13 ?_
  refine at_key (X := fun A_ => A_ #[true, true, true, true, true, true, true, true, true, false, false, false, false] 4 [(27, vi f.i), (23, .slice l.sa c.subs.length l.sc), (5, .bool false), (4, vp b1 0), (0, vp eb 0), (1, vp fb fo)] (pts fb fo [vi f.kind, vi f.line, vi f.q.top, vi f.q.bottom, vi f.q.ring, vi f.q.cap, vi f.a, vi f.b, vi f.d, vi f.i, vi f.j, vi f.n, vi f.t, vu f.u, vu f.v, vu f.w, vu f.x, .slice A2 f.l.length c2] :: roS encInt 1 A2 c2 f.l :: pts b1 0 [zi, zi, zi, zi, zi, zi, zi, zi, zi, zi, zi, zi, zi, vu 0, vu 0, vu 0, vu 0, .slice none 0 0] :: cP eb c l :: cfgL c l pl :: [F])) ?_ (fun k15 => ?_)
  ·show AT _ _ _ _ _ _ _ _ _ _
   refine x2 9 11 ?_ ?_
   ·refine zs rfl (oq_indexD (enc := Sub.enc) (sz' := 3) (sz := 3) (xs := c.subs) m1 m0 (rd_subs e4) g4 rfl (by kernel_rfl) rfl) ?_
    refine x2 10 11 ?_ ?_
    ·refine zs rfl (oq_loadDS (enc := Sub.enc) (sz := 3) (i := (f.i).toNat) (xs := c.subs) m0 (rd_subs e4) (at_get g4) rfl (by kernel_rfl) rfl) ?_
     refine tn 11 rfl (al [zi, zi, zi]) ?_
     rintro b16
     refine tz 12 rfl (sta 0 m0 m1 t0) ?_
     refine zz ?_
     exact aK b16 () trivial (lc e0 (lc e5 (lc e6 (lc e7 (lc e8 lN))))) Ent.refl
    refine un rfl (al [zi, zi, zi]) ?_
    rintro b17
    refine za 10 rfl (oq_loadDS (enc := Sub.enc) (sz := 3) (i := (f.i).toNat) (xs := c.subs) m1 (rd_subs e5) (at_get g4) rfl (by kernel_rfl) rfl) ?_
    refine tz 12 rfl (sta 0 m1 m0 t0) ?_
    refine zz ?_
    exact aK b17 () trivial (lc e1 (lc e5 (lc e6 (lc e7 (lc e8 lN))))) Ent.refl
   refine un rfl (al [zi, zi, zi]) ?_
   rintro b18
   refine za 9 rfl (oq_indexD (enc := Sub.enc) (sz' := 3) (sz := 3) (xs := c.subs) m2 m1 (rd_subs e5) g4 rfl (by kernel_rfl) rfl) ?_
   refine za 10 rfl (oq_loadDS (enc := Sub.enc) (sz := 3) (i := (f.i).toNat) (xs := c.subs) m0 (rd_subs e5) (at_get g4) rfl (by kernel_rfl) rfl) ?_
   refine tz 12 rfl (sta 0 m2 m0 t0) ?_
   refine zz ?_
   exact aK b18 () trivial (lc e2 (lc e5 (lc e6 (lc e7 (lc e8 lN))))) Ent.refl
  refine zt 0 rfl (mv m13) ?_
  refine zt 1 rfl (nc m0) ?_
  refine zt 2 rfl (fd 0 0 m0) ?_
  refine zt 3 rfl (fd 10 10 m0) ?_
  refine zt 5 rfl (mv m18) ?_
  refine zt 6 rfl (nc m0) ?_
  refine zt 7 rfl (fd 9 (fo + 9) m0) ?_
  refine x3 4 8 11 ?_ ?_ ?_
  ·refine zs rfl (ld 0 10 m3 e3 rfl) ?_
   refine x2 8 11 ?_ ?_
   ·refine zs rfl (ld fo 9 m1 e0 rfl) ?_
    exact at_use k15 (lc e0 (lc e1 (lc (eU e0) (lc (eU e1) (lc (eU e2) (lc (eU e3) lN)))))) Ent.refl
   refine un rfl (al [zi, zi, zi]) ?_
   rintro b19
   refine za 8 rfl (ld fo 9 m2 e1 rfl) ?_
   refine za 9 rfl (oq_indexD (enc := Sub.enc) (sz' := 3) (sz := 3) (xs := c.subs) m2 m0 (rd_subs e5) g4 rfl (by kernel_rfl) rfl) ?_
   refine za 10 rfl (oq_loadDS (enc := Sub.enc) (sz := 3) (i := (f.i).toNat) (xs := c.subs) m0 (rd_subs e5) (at_get g4) rfl (by kernel_rfl) rfl) ?_
   refine tz 12 rfl (sta 0 m3 m0 t0) ?_
   refine zz ?_
   exact aK b19 () trivial (lc e3 (lc (eU e3) (lc (eU e4) (lc (eU e5) (lc (eU e6) lN))))) Ent.refl
  ·refine zs rfl (ld fo 9 m0 e0 rfl) ?_
   refine x2 4 11 ?_ ?_
   ·refine zs rfl (ld 0 10 m4 e3 rfl) ?_
    exact at_use k15 (lc e1 (lc e0 (lc (eU e0) (lc (eU e1) (lc (eU e2) (lc (eU e3) lN)))))) Ent.refl
   refine un rfl (al [zi, zi, zi]) ?_
   rintro b20
   refine za 4 rfl (ld 0 10 m5 e4 rfl) ?_
   refine za 9 rfl (oq_indexD (enc := Sub.enc) (sz' := 3) (sz := 3) (xs := c.subs) m0 m2 (rd_subs e5) g4 rfl (by kernel_rfl) rfl) ?_
   refine za 10 rfl (oq_loadDS (enc := Sub.enc) (sz := 3) (i := (f.i).toNat) (xs := c.subs) m0 (rd_subs e5) (at_get g4) rfl (by kernel_rfl) rfl) ?_
   refine tz 12 rfl (sta 0 m3 m0 t0) ?_
   refine zz ?_
   exact aK b20 () trivial (lc e3 (lc (eU e3) (lc (eU e4) (lc (eU e5) (lc (eU e6) lN))))) Ent.refl
  refine un rfl (al [zi, zi, zi]) ?_
  rintro b21
  refine at_group [4, 8, 9, 10] 1 rfl (by kernel_rfl) rfl ?_
  refine yq (ld 0 10 m4 e4 rfl) (yq (ld fo 9 m2 e1 rfl) (yq (oq_indexD (enc := Sub.enc) (sz' := 3) (sz := 3) (xs := c.subs) m1 m0 (rd_subs e5) g4 rfl (by kernel_rfl) rfl) (yq (oq_loadDS (enc := Sub.enc) (sz := 3) (i := (f.i).toNat) (xs := c.subs) m0 (rd_subs e5) (at_get g4) rfl (by kernel_rfl) rfl) (qN (tz 12 rfl (sta 0 m4 m0 t0) ?_)))))
  refine zz ?_
  exact aK b21 () trivial (lc e4 (lc (eU e3) (lc (eU e4) (lc (eU e5) (lc (eU e6) lN))))) Ent.refl
 refine cS (q2 (zp (mv m4) (zp (nc m0) (zp (fd 1 (fo + 1) m0) (zq (ld fo 1 m0 e1 rfl) (q1 (cB (q2 (zp (eqL m0 .const) (zp (asg m0) (q1 (ci hs m0 (fun h22 hs => ?_) (fun h22 hs => ?_)))))))))))))
 ·refine q2 (zp (mv m9) (zp (nc m0) (zp (fd 0 0 m0) (zp (fd 0 0 m0) (zq (ld 0 0 m0 e4 rfl) (zp (op_build (v := .agg #[vi 7, zi, zi, zi, zi, zi, vi c.workers, zi, zi, zi, zi, zi, zi, vu 0, vu 0, vu 0, vu 0, .slice none 0 0]) (.cons .const (.cons m0 .nil)) (fun _ => by kernel_rfl)) (rz (sta 0 m14 m0 t3) (zo (asg .const) pick13 (q4 (bR (tR (pkE (p2 pn) (tE ro_dup (pkE (p3 pn) (sf f (tE (ro_nil (enc := encInt) (sz := 1) (A := none) (c := 0)) ?_))))))))))))))))
  obtain rfl := sI hs
  exact fab ((none : Option Addr), 0) e14 e4 e0 (d3 (eP (p2 (p2 (p2 (p0 (p1 (p1 pn))))))))
 refine q2 (zp (eqL m2 .const) (zp (asg m0) (q1 (ci hs m0 (fun h23 hs => ?_) (fun h23 hs => ?_)))))
 ·refine q2 (zp (op_build (v := .agg #[vi 12, zi, zi, zi, zi, zi, zi, zi, zi, zi, zi, zi, zi, vu 0, vu 0, vu 0, vu 0, .slice none 0 0]) (.cons .const .nil) (fun _ => by kernel_rfl)) (rz (sta 0 m11 m0 t3) (zo (asg .const) pick10 (q4 (bR (tR (pkE (p2 pn) (tE ro_dup (pkE (p3 pn) (sf f (tE (ro_nil (enc := encInt) (sz := 1) (A := none) (c := 0)) ?_)))))))))))
  obtain rfl := sI hs
  exact fab ((none : Option Addr), 0) e11 e4 e0 (d3 (eP (p2 (p2 (p2 (p0 (p1 (p1 pn))))))))
 refine q2 (zp (eqL m4 .const) (zp (asg m0) (q1 (ci hs m0 (fun h24 hs => ?_) (fun h24 hs => ?_)))))
 ·refine cS (ca 9 ?_)
  refine zt 0 rfl (fd 2 2 m10) ?_
  refine zt 2 rfl (mv m15) ?_
  refine zt 3 rfl (nc m0) ?_
  refine zt 4 rfl (fd 11 (fo + 11) m0) ?_
  refine at_group [1, 5, 6] 2 rfl (by kernel_rfl) rfl ?_
  refine yq (ld 0 2 m3 e0 rfl) (yq (ld fo 11 m1 e1 rfl) (yp (op_build (v := .agg #[vi 10, zi, zi, zi, zi, zi, vi ((at_ c.subs f.i).deadline), vi f.n, zi, zi, zi, zi, zi, vu 0, vu 0, vu 0, vu 0, .slice none 0 0]) (.cons .const (.cons m1 (.cons m0 .nil))) (fun _ => by kernel_rfl)) (qN (tz 7 rfl (sta 0 m19 m0 t3) ?_))))
  refine at_take 8 (by kernel_rfl) rfl rfl rfl (asg .const) wants_none (put_over pick18 (by kernel_rfl)) ?_
  refine zz ?_
  refine tT (cQ (bR (tR (pkE (p2 pn) (tE ro_dup (pkE (p3 pn) (sf f (tE (ro_nil (enc := encInt) (sz := 1) (A := none) (c := 0)) ?_))))))))
  obtain rfl := sI hs
  exact fab ((none : Option Addr), 0) e19 e4 e0 (d3 (eP (p2 (p2 (p2 (p0 (p1 (p1 pn))))))))
 refine q2 (zp (eqL m6 .const) (zp (asg m0) (q1 (ci hs m0 (fun h25 hs => ?_) (fun h25 hs => ?_)))))
 ·refine q2 (zp (op_build (v := .agg #[vi 9, zi, zi, zi, zi, zi, zi, zi, zi, zi, zi, zi, zi, vu 0, vu 0, vu 0, vu 0, .slice none 0 0]) (.cons .const .nil) (fun _ => by kernel_rfl)) (rz (sta 0 m15 m0 t3) (zo (asg .const) pick14 (q4 (bR (tR (pkE (p2 pn) (tE ro_dup (pkE (p3 pn) (sf f (tE (ro_nil (enc := encInt) (sz := 1) (A := none) (c := 0)) ?_)))))))))))
  obtain rfl := sI hs
  exact fab ((none : Option Addr), 0) e15 e4 e0 (d3 (eP (p2 (p2 (p2 (p0 (p1 (p1 pn))))))))
 refine q2 (zp (eqL m8 .const) (zp (asg m0) (q1 (ci hs m0 (fun h26 hs => ?_) (fun h26 hs => ?_)))))
 ·refine cS (ca 10 ?_)
  refine zt 0 rfl (mv m17) ?_
  refine zt 1 rfl (nc m0) ?_
  refine zt 2 rfl (fd 0 0 m0) ?_
  refine zt 3 rfl (fd 0 0 m0) ?_
  refine zt 5 rfl (fd 1 1 m18) ?_
  refine at_group [4, 6, 7] 2 rfl (by kernel_rfl) rfl ?_
  refine yq (ld 0 0 m1 e4 rfl) (yq (ld 0 1 m1 e0 rfl) (yp (op_build (v := .agg #[vi 20, zi, zi, zi, zi, zi, vi c.workers, vi ((at_ c.subs f.i).level), zi, zi, zi, zi, zi, vu 0, vu 0, vu 0, vu 0, .slice none 0 0]) (.cons .const (.cons m1 (.cons m0 .nil))) (fun _ => by kernel_rfl)) (qN (tz 8 rfl (sta 0 (mU m4) m0 t3) ?_))))
  refine at_take 9 (by kernel_rfl) rfl rfl rfl (asg .const) wants_none (put_over (pickU pick3) (by kernel_rfl)) ?_
  refine zz ?_
  refine tT (cQ (bR (tR (pkE (p2 pn) (tE ro_dup (pkE (p3 pn) (sf f (tE (ro_nil (enc := encInt) (sz := 1) (A := none) (c := 0)) ?_))))))))
  obtain rfl := sI hs
  exact fab ((none : Option Addr), 0) (eU e4) e4 e0 (d3 (eP (p2 (p2 (p2 (p0 (p1 (p1 pn))))))))
 refine cK (tB (tT (q2 (zp (op_build (v := .agg #[zi, zi, zi, zi, zi, zi, zi, zi, zi, zi, zi, zi, zi, vu 0, vu 0, vu 0, vu 0, .slice none 0 0]) .nil (fun _ => by kernel_rfl)) (rz (sta 0 m17 m0 t3) (zo (asg .const) pick16 (q4 (pkE (p2 pn) (tE ro_dup (pkE (p3 pn) (sf f (tE (ro_nil (enc := encInt) (sz := 1) (A := none) (c := 0)) ?_))))))))))))
 obtain rfl := sI hs
 exact fab ((none : Option Addr), 0) e17 e4 e0 (d3 (eP (p2 (p2 (p2 (p0 (p1 (p1 pn))))))))
def r8choose_s (c : Cfg) (recs : List RecV) (f : FrV) : Option (FrV) :=
 if f.line ≠ 1 then
  some f
 else
 (r8top_s f).bind fun r3 =>
 if (!(etask_s c recs r3)) = true then
  some ({ f with line := 23 } : FrV)
 else
 if 0 ≤ r3 ∧ r3 < (recs.length : Int) then
 (eprogram_s c recs r3).bind fun r12 =>
 if (at_ recs r3).waiting ≠ (-1) then
  some ({ f with line := 2 } : FrV)
 else
 if ((at_ recs r3).pc < 0) ∨ (((r12.length : Nat) : Int) ≤ (at_ recs r3).pc) then
  some ({ f with line := 17 } : FrV)
 else
 if 0 ≤ (at_ recs r3).pc ∧ (at_ recs r3).pc < (r12.length : Int) then
 if (at_ r12 ((at_ recs r3).pc)).op = 0 then
  some ({ f with line := 3 } : FrV)
 else
 if (at_ r12 ((at_ recs r3).pc)).op = 1 then
  some ({ f with line := 5 } : FrV)
 else
 if (at_ r12 ((at_ recs r3).pc)).a < (((at_ recs r3).kids.length : Nat) : Int) then
  if 0 ≤ (at_ r12 ((at_ recs r3).pc)).a ∧ (at_ r12 ((at_ recs r3).pc)).a < (((at_ recs r3).kids).length : Int) then
  if (at_ ((at_ recs r3).kids) ((at_ r12 ((at_ recs r3).pc)).a)) ≠ (-1) then
   some ({ f with line := 10, j := (at_ ((at_ recs r3).kids) ((at_ r12 ((at_ recs r3).pc)).a)) } : FrV)
  else
  some ({ f with line := 4 } : FrV)
  else none
 else
 some ({ f with line := 4 } : FrV)
 else none
 else none
theorem r8choose_ok {o : FrV} (hs : r8choose_s c recs f = some o) (eb : Nat) (l : CfgAt) (pl : List (Option Addr × Nat)) (RA : Option Addr) (RC : Nat) (fb fo : Nat)  (B : Nat) (W : World)  : Fn_ Tryz.prog 159 #[vp eb 0, vp fb fo] B W [cP eb c l, cfgL c l pl, pts eb 19 [.slice RA recs.length RC], recsS RA RC recs, frS fb fo f] (X := Unit) (fun x => .tuple #[]) (fun x => [cP eb c l, cfgL c l pl, pts eb 19 [.slice RA recs.length RC], recsS RA RC recs, frS fb fo o]) := by
 unfold r8choose_s at hs
 refine fe2 Tryz.func159 117 rfl (fun F => ?_)
 refine cS (cS (ct_open pick4 ?_))
 rintro ⟨A1, c1⟩
 refine cR (zp (mv m1) (zp (nc m0) (zp (fd 1 (fo + 1) m0) (zq (ld fo 1 m0 e0 rfl) (zp (op_neq m0 .const) (q1 (ci hs m0 (fun h2 hs => ?_) (fun h2 hs => ?_))))))))
 ·refine cQ (tR (pkE (p1 pn) (tE ro_dup (pkE (p2 pn) (sf f ?_)))))
  obtain rfl := sI hs
  exact et_fn () rfl .nil rfl (d1 (eP (p1 (p1 (p1 (p1 (p1 pn)))))))
 refine cK (tT (q2 (zp (mv m6) (pkR (p1 pn) (rE ro_dup (pkR (p2 pn) (rE (shut (N := itN frC FrV.l fb fo f) (A1, c1) rfl) ?_)))))))
 obtain ⟨r3, hr3, hs⟩ := bO_of hs
 refine zq (cq (.cons m0 .nil) (r8top_ok hr3 fb fo _ _) (p0 pn)) (zp (asg m0) (q1 (cS (q2 (zp (mv m8) (zp (mv m1) (zq (cq (.cons m1 (.cons m0 .nil)) (etask_ok (o := etask_s c recs r3) rfl eb l RA RC _ _) (p2 (p3 pn))) (zp (op_notb m0) (q1 (cj hs m0 (fun h4 hs => ?_) (fun h4 hs => ?_)))))))))))
 ·refine cS (ct_open pick0 ?_)
  rintro ⟨A5, c5⟩
  refine cR (zp (mv m13) (zp (nc m0) (zp (fd 1 (fo + 1) m0) (rz (st1 fo w1 m0 .const t0) (q4 (tR (pkE (p1 pn) (tE ro_dup (pkE (p2 pn) (sf ({ f with line := 23 } : FrV) ?_))))))))))
  obtain rfl := sI hs
  exact et_fn () rfl .nil rfl (d2 (eP (p1 (p1 (p1 (p1 (p1 (p1 pn))))))))
 refine cK (tT (cS (ct_open pick0 ?_)))
 rintro ⟨A6, c6⟩
 refine cR (zp (mv m12) (zp (nc m0) (zp (fd 19 19 m0) (zq (ld 19 0 m0 e5 rfl) (zp (mv m8) ?_)))))
 obtain ⟨g7, hs⟩ := gO hs
 refine rt_focus (r3).toNat pick6 (by omega) (fun rb8 ro8 hA9 => ?_)
 subst hA9
 rw [at_eq (by omega)]
 refine rt_open pick0 ?_
 rintro ⟨A10, c10⟩
 refine zp (op_index (i := (r3).toNat) (o' := ro8 + (r3).toNat * 7) m1 m0 (by omega) (by omega) (by kernel_rfl) rfl) (zq (lda (ro8 + (r3).toNat * 7) m0 e0) (rn (al [zi, zi, zi, zi, zi, .slice none 0 0, .bool false]) ?_))
 rintro b11
 refine rz (sta 0 m0 m1 t0) (q3 (zp (mv (mU m0)) (zp (mv m13) (pkR (p2 pn) (rE ro_dup (pkR (p3 pn) (rE (it_shut (enc := recC) (lst := RecV.kids) (x := (at_ recs r3)) (A := A10) (c := c10) (by simp [recC])) (pkR (p0 (p2 pn)) (rE (unfocus (xs := recs) (by have := g7; omega)) ?_)))))))))
 rw [set_at g7]
 obtain ⟨r12, hr12, hs⟩ := bO_of hs
 refine rn (co (.cons m1 (.cons m0 .nil)) (eprogram_ok hr12 eb l pl (some ⟨rb8, ro8, none⟩) RC _ _) (p6 (p6 (p6 (p0 pn))))) ?_
 rintro ⟨A13, c13⟩
 refine zp (asg m0) (q1 (cB (q2 (zp (fd 4 4 m4) (zq (ld 0 4 m0 e6 rfl) (zp (op_neq m0 .const) (zp (asg m0) (q1 (ci hs m0 (fun h14 hs => ?_) (fun h14 hs => ?_))))))))))
 ·refine cR (zp (mv (mU m9)) (zp (nc m0) (zp (fd 1 (fo + 1) m0) (rz (st1 fo w1 m0 .const t7) (rN (tB (pkE (p8 pn) (tE ro_dup (pkE (p9 pn) (sf ({ f with line := 2 } : FrV) ?_))))))))))
  obtain rfl := sI hs
  exact et_fn_end () rfl .nil rfl ((Ent.picks (p1 (p1 (p5 (p5 (p5 (p1 (p1 (p1 (p1 (p0 .nil))))))))))).trans (Ent.drop.trans (Ent.drop.trans (Ent.drop.trans (Ent.drop.trans Ent.drop)))))
 refine cS (ct_cut (X := Unit) (fun _ => True) (fun _ => [(41, .bool (decide (((at_ recs r3).pc < 0) ∨ (((r12.length : Nat) : Int) ≤ (at_ recs r3).pc)))), (6, .slice A13 r12.length c13), (5, vp b11 0), (1, vp fb fo)]) (fun _ => rdS Ins.enc 3 A13 r12 :: cP eb c l :: cfgL c l pl :: pts eb 19 [.slice (some ⟨rb8, ro8, none⟩) recs.length RC] :: recsS (some ⟨rb8, ro8, none⟩) RC recs :: roS encInt 1 A10 c10 ((at_ recs r3).kids) :: pts b11 0 [vi ((at_ recs r3).prog), vi ((at_ recs r3).parent), vi ((at_ recs r3).pc), vi ((at_ recs r3).left), vi ((at_ recs r3).waiting), .slice A10 ((at_ recs r3).kids.length) c10, .bool ((at_ recs r3).started)] :: pts fb fo [vi f.kind, vi f.line, vi f.q.top, vi f.q.bottom, vi f.q.ring, vi f.q.cap, vi f.a, vi f.b, vi f.d, vi f.i, vi f.j, vi f.n, vi f.t, vu f.u, vu f.v, vu f.w, vu f.x, .slice A6 f.l.length c6] :: roS encInt 1 A6 c6 f.l :: roS encInt 1 A1 c1 f.l :: [F]) ?_ (fun _ _ => (?_ : CT _ _ _ _ _ _ _ _ _)))
 ·refine cR (zp (fd 2 2 m8) (zq (ld 0 2 m0 e6 rfl) (zp (op_lss m0 .const) (zp (mv m0) (rt_case t0 t0 (fun h15 => ?_) (fun h15 => ?_))))))
  ·exact zk rfl rfl e0 (zk rfl rfl e1 (zk rfl rfl e2 (zk rfl rfl e3 (zk rfl rfl e4 (zp (op_pick (b := true) m5 .const) (zp (asg m0) (rN (et_cut () trivial (.cons e0 (by simp only [eq_true h15, ↓reduceIte, reduceCtorEq, bS]) (lc e15 (lc e19 (lc (eU (eU e0)) .nil)))) Ent.refl))))))))
  exact zw (fd 2 2 m12).q rfl rfl e0 (zw (ld 0 2 m0 e6 rfl) rfl rfl e1 (zw (mv m10).q rfl rfl e2 (zw (op_len m0 Tryz.underlying110).q rfl rfl e3 (zw (op_geq m2 m0).q rfl rfl e4 (zp (op_pick (b := false) m5 m0) (zp (asg m0) (rN (et_cut () trivial (.cons e0 (by simp only [eq_false h15, ↓reduceIte, reduceCtorEq, bS]) (lc e15 (lc e19 (lc (eU (eU e0)) .nil)))) Ent.refl))))))))
 refine ci hs m0 (fun h16 hs => ?_) (fun h16 hs => ?_)
 ·refine cR (zp (mv m3) (zp (nc m0) (zp (fd 1 (fo + 1) m0) (rz (st1 fo w1 m0 .const t7) (rN (tB (pkE (p8 pn) (tE ro_dup (pkE (p9 pn) (sf ({ f with line := 17 } : FrV) ?_))))))))))
  obtain rfl := sI hs
  exact et_fn_end () rfl .nil rfl ((Ent.picks (p1 (p1 (p5 (p5 (p5 (p1 (p1 (p1 (p1 (p0 .nil))))))))))).trans (Ent.drop.trans (Ent.drop.trans (Ent.drop.trans (Ent.drop.trans Ent.drop)))))
 refine q2 (zp (mv m1) (zp (fd 2 2 m3) (zq (ld 0 2 m0 e6 rfl) ?_)))
 obtain ⟨g17, hs⟩ := gO hs
 refine zq (oq_indexD (enc := Ins.enc) (sz' := 3) (sz := 3) (xs := r12) m2 m0 (rd_rd e0) g17 rfl (by kernel_rfl) rfl) (zq (oq_fieldD (enc := Ins.enc) (sz := 3) (xs := r12) (k := 0) m0 (rd_rd e0) (by omega) (by kernel_rfl) rfl) (zq (oq_loadD1 (enc := Ins.enc) (sz := 3) (i := ((at_ recs r3).pc).toNat) (j := 0) (xs := r12) m0 (rd_rd e0) (at_get g17) rfl (by omega) (by kernel_rfl)) (zp (eqL m0 .const) (zp (asg m0) (q1 (ci hs m0 (fun h18 hs => ?_) (fun h18 hs => ?_)))))))
 ·refine cR (zp (mv m11) (zp (nc m0) (zp (fd 1 (fo + 1) m0) (rz (st1 fo w1 m0 .const t7) (rN (tB (pkE (p8 pn) (tE ro_dup (pkE (p9 pn) (sf ({ f with line := 3 } : FrV) ?_))))))))))
  obtain rfl := sI hs
  exact et_fn_end () rfl .nil rfl ((Ent.picks (p1 (p1 (p5 (p5 (p5 (p1 (p1 (p1 (p1 (p0 .nil))))))))))).trans (Ent.drop.trans (Ent.drop.trans (Ent.drop.trans (Ent.drop.trans Ent.drop)))))
 refine q2 (zp (mv m9) (zp (fd 2 2 m11) (zq (ld 0 2 m0 e6 rfl) (zq (oq_indexD (enc := Ins.enc) (sz' := 3) (sz := 3) (xs := r12) m2 m0 (rd_rd e0) g17 rfl (by kernel_rfl) rfl) (zq (oq_fieldD (enc := Ins.enc) (sz := 3) (xs := r12) (k := 0) m0 (rd_rd e0) (by omega) (by kernel_rfl) rfl) (zq (oq_loadD1 (enc := Ins.enc) (sz := 3) (i := ((at_ recs r3).pc).toNat) (j := 0) (xs := r12) m0 (rd_rd e0) (at_get g17) rfl (by omega) (by kernel_rfl)) (zp (eqL m0 .const) (zp (asg m0) (q1 (ci hs m0 (fun h19 hs => ?_) (fun h19 hs => ?_)))))))))))
 ·refine cR (zp (mv m19) (zp (nc m0) (zp (fd 1 (fo + 1) m0) (rz (st1 fo w1 m0 .const t7) (rN (tB (pkE (p8 pn) (tE ro_dup (pkE (p9 pn) (sf ({ f with line := 5 } : FrV) ?_))))))))))
  obtain rfl := sI hs
  exact et_fn_end () rfl .nil rfl ((Ent.picks (p1 (p1 (p5 (p5 (p5 (p1 (p1 (p1 (p1 (p0 .nil))))))))))).trans (Ent.drop.trans (Ent.drop.trans (Ent.drop.trans (Ent.drop.trans Ent.drop)))))
 refine cS (ct_draw (by kernel_rfl) (by kernel_rfl) ?_)
 refine yp (mv m17) (yp (fd 2 2 m19) (yq (ld 0 2 m0 e6 rfl) (yq (oq_indexD (enc := Ins.enc) (sz' := 3) (sz := 3) (xs := r12) m2 m0 (rd_rd e0) g17 rfl (by kernel_rfl) rfl) (yq (oq_fieldD (enc := Ins.enc) (sz := 3) (xs := r12) (k := 1) m0 (rd_rd e0) (by omega) (by kernel_rfl) rfl) (yq (oq_loadD1 (enc := Ins.enc) (sz := 3) (i := ((at_ recs r3).pc).toNat) (j := 1) (xs := r12) m0 (rd_rd e0) (at_get g17) rfl (by omega) (by kernel_rfl)) (yp (fd 5 5 (mU m4)) (yq (ld 0 5 m0 e6 rfl) (yp (op_len m0 Tryz.underlying23) (yp (op_lss m3 m0) (yp (mv m0) (qt_case t0 t0 (fun h20 => ?_) (fun h20 => ?_))))))))))))
 ·replace hs := ip h20 hs
  refine yw (fd 5 5 (mU m9)).q rfl rfl e0 (yw (ld 0 5 m0 e6 rfl) rfl rfl e1 (yw (mv (mU m10)).q rfl rfl e2 (yw (fd 2 2 (mU m12)).q rfl rfl e3 (yw (ld 0 2 m0 e6 rfl) rfl rfl e4 (yw (oq_indexD (enc := Ins.enc) (sz' := 3) (sz := 3) (xs := r12) m2 m0 (rd_rd e0) g17 rfl (by kernel_rfl) rfl) rfl rfl e5 (yw (oq_fieldD (enc := Ins.enc) (sz := 3) (xs := r12) (k := 1) m0 (rd_rd e0) (by omega) (by kernel_rfl) rfl) rfl rfl e6 (yw (oq_loadD1 (enc := Ins.enc) (sz := 3) (i := ((at_ recs r3).pc).toNat) (j := 1) (xs := r12) m0 (rd_rd e0) (at_get g17) rfl (by omega) (by kernel_rfl)) rfl rfl e7 ?_)))))))
  obtain ⟨g21, hs⟩ := gO hs
  refine yw (oq_indexD (enc := encInt) (sz' := 1) (sz := 1) (xs := (at_ recs r3).kids) m6 m0 (rd_ro e5) g21 rfl (by kernel_rfl) (Nat.mul_one _)) rfl rfl e8 (yw (oq_loadD1 (enc := encInt) (sz := 1) (i := ((at_ r12 ((at_ recs r3).pc)).a).toNat) (j := 0) (xs := (at_ recs r3).kids) m0 (rd_ro e5) (at_get g21) rfl (by omega) (by kernel_rfl)) rfl rfl e9 (yw (op_neq m0 .const).q rfl rfl e10 (yp (op_pick (b := true) m11 m0) (yp (asg m0) (qN (tT (ci hs m0 (fun h22 hs => ?_) (fun h22 hs => ?_))))))))
  ·refine ca 18 ?_
   refine zt 0 rfl (mv (mU (mU m3))) ?_
   refine zt 1 rfl (mv (mU (mU m4))) ?_
   refine zt 2 rfl (fd 5 5 (mU (mU m4))) ?_
   refine zt 4 rfl (mv (mU (mU m4))) ?_
   refine zt 5 rfl (fd 2 2 (mU (mU m6))) ?_
   refine at_group [3, 6, 7, 8, 9, 10, 11, 12, 13] 4 rfl (by kernel_rfl) rfl ?_
   refine yq (ld 0 5 m2 e6 rfl) (yq (ld 0 2 m1 e6 rfl) (yq (oq_indexD (enc := Ins.enc) (sz' := 3) (sz := 3) (xs := r12) m3 m0 (rd_rd e0) g17 rfl (by kernel_rfl) rfl) (yq (oq_fieldD (enc := Ins.enc) (sz := 3) (xs := r12) (k := 1) m0 (rd_rd e0) (by omega) (by kernel_rfl) rfl) (yq (oq_loadD1 (enc := Ins.enc) (sz := 3) (i := ((at_ recs r3).pc).toNat) (j := 1) (xs := r12) m0 (rd_rd e0) (at_get g17) rfl (by omega) (by kernel_rfl)) (yq (oq_indexD (enc := encInt) (sz' := 1) (sz := 1) (xs := (at_ recs r3).kids) m4 m0 (rd_ro e5) g21 rfl (by kernel_rfl) (Nat.mul_one _)) (yq (oq_loadD1 (enc := encInt) (sz := 1) (i := ((at_ r12 ((at_ recs r3).pc)).a).toNat) (j := 0) (xs := (at_ recs r3).kids) m0 (rd_ro e5) (at_get g21) rfl (by omega) (by kernel_rfl)) (yp (nc m11) (yp (fd 1 (fo + 1) m0) (qN (tz 14 rfl (st1 fo w1 m0 .const t7) ?_))))))))))
   refine zt 15 rfl (nc m12) ?_
   refine zt 16 rfl (fd 10 (fo + 10) m0) ?_
   refine tz 17 rfl (st1 fo w10 m0 m4 t7) ?_
   refine zz ?_
   refine tB (pkE (p8 pn) (tE ro_dup (pkE (p9 pn) (sf ({ f with line := 10, j := (at_ ((at_ recs r3).kids) ((at_ r12 ((at_ recs r3).pc)).a)) } : FrV) ?_))))
   obtain rfl := sI hs
   exact et_fn_end () rfl .nil rfl ((Ent.picks (p1 (p1 (p5 (p5 (p5 (p1 (p1 (p1 (p1 (p0 .nil))))))))))).trans (Ent.drop.trans (Ent.drop.trans (Ent.drop.trans (Ent.drop.trans Ent.drop)))))
  refine cR (zp (mv (mU (mU m3))) (zp (nc m0) (zp (fd 1 (fo + 1) m0) (rz (st1 fo w1 m0 .const t7) (rN (tB (pkE (p8 pn) (tE ro_dup (pkE (p9 pn) (sf ({ f with line := 4 } : FrV) ?_))))))))))
  obtain rfl := sI hs
  exact et_fn_end () rfl .nil rfl ((Ent.picks (p1 (p1 (p5 (p5 (p5 (p1 (p1 (p1 (p1 (p0 .nil))))))))))).trans (Ent.drop.trans (Ent.drop.trans (Ent.drop.trans (Ent.drop.trans Ent.drop)))))
 replace hs := im h20 hs
 refine yk rfl rfl e0 (yk rfl rfl e1 (yk rfl rfl e2 (yk rfl rfl e3 (yk rfl rfl e4 (yk rfl rfl e5 (yk rfl rfl e6 (yk rfl rfl e7 (yk rfl rfl e8 (yk rfl rfl e9 (yk rfl rfl e10 (yp (op_pick (b := false) m11 .const) (yp (asg m0) (qN (tT (ct_false m0 ?_)))))))))))))))
 refine cR (zp (mv (mU (mU m3))) (zp (nc m0) (zp (fd 1 (fo + 1) m0) (rz (st1 fo w1 m0 .const t7) (rN (tB (pkE (p8 pn) (tE ro_dup (pkE (p9 pn) (sf ({ f with line := 4 } : FrV) ?_))))))))))
 obtain rfl := sI hs
 exact et_fn_end () rfl .nil rfl ((Ent.picks (p1 (p1 (p5 (p5 (p5 (p1 (p1 (p1 (p1 (p0 .nil))))))))))).trans (Ent.drop.trans (Ent.drop.trans (Ent.drop.trans (Ent.drop.trans Ent.drop)))))
def r8enterrun_s (c : Cfg) (recs : List RecV) (f : FrV) : Option (FrV × Bool × FrV) :=
 (r8choose_s c recs f).bind fun r2 =>
 if r2.line = 5 then
  some ((⟨12, 0, (⟨0, 0, 0, 0⟩ : QV), 0, 0, 0, 0, 0, 0, 0, 0, 0, 0, 0, []⟩ : FrV), true, r2)
 else
 if r2.line = 6 then
  some ((⟨13, 0, (⟨0, 0, 0, 0⟩ : QV), r2.n, r2.d, 0, 0, 0, 0, 0, 0, 0, 0, 0, []⟩ : FrV), true, r2)
 else
 if r2.line = 7 then
  some ((⟨5, 0, (⟨0, 0, 0, 0⟩ : QV), r2.a, r2.d, r2.n, 0, 0, 0, 0, 0, 0, 0, 0, []⟩ : FrV), true, r2)
 else
 if r2.line = 8 then
  some ((⟨20, 0, (⟨0, 0, 0, 0⟩ : QV), r2.a, r2.d, 0, 0, 0, 0, 0, 0, 0, 0, 0, []⟩ : FrV), true, r2)
 else
 if (r2.line = 9) ∨ (r2.line = 22) then
  some ((⟨14, 0, (⟨0, 0, 0, 0⟩ : QV), r2.a, r2.n, 0, 0, 0, 0, 0, 0, 0, 0, 0, []⟩ : FrV), true, r2)
 else
 if r2.line = 14 then
  some ((⟨17, 0, (⟨0, 0, 0, 0⟩ : QV), r2.a, r2.j, r2.t, 0, 0, 0, 0, 0, 0, 0, 0, []⟩ : FrV), true, r2)
 else
 if r2.line = 20 then
  some ((⟨15, 0, (⟨0, 0, 0, 0⟩ : QV), r2.a, r2.n, 0, 0, 0, 0, 0, 0, 0, 0, 0, []⟩ : FrV), true, r2)
 else
 if r2.line = 21 then
  some ((⟨20, 0, (⟨0, 0, 0, 0⟩ : QV), r2.a, r2.t, 0, 0, 0, 0, 0, 0, 0, 0, 0, []⟩ : FrV), true, r2)
 else
 some ((⟨0, 0, (⟨0, 0, 0, 0⟩ : QV), 0, 0, 0, 0, 0, 0, 0, 0, 0, 0, 0, []⟩ : FrV), false, r2)
theorem r8enterrun_ok {o : FrV × Bool × FrV} (hs : r8enterrun_s c recs f = some o) (eb : Nat) (l : CfgAt) (pl : List (Option Addr × Nat)) (RA : Option Addr) (RC : Nat) (fb fo : Nat)  (B : Nat) (W : World)  : Fn_ Tryz.prog 115 #[vp eb 0, vp fb fo] B W [cP eb c l, cfgL c l pl, pts eb 19 [.slice RA recs.length RC], recsS RA RC recs, frS fb fo f] (X := Option Addr × Nat) (fun x => .tuple #[.agg #[vi o.1.kind, vi o.1.line, vi o.1.q.top, vi o.1.q.bottom, vi o.1.q.ring, vi o.1.q.cap, vi o.1.a, vi o.1.b, vi o.1.d, vi o.1.i, vi o.1.j, vi o.1.n, vi o.1.t, vu o.1.u, vu o.1.v, vu o.1.w, vu o.1.x, .slice x.1 o.1.l.length x.2], .bool (o.2.1)]) (fun x => [roS encInt 1 x.1 x.2 o.1.l, cP eb c l, cfgL c l pl, pts eb 19 [.slice RA recs.length RC], recsS RA RC recs, frS fb fo o.2.2]) := by
 unfold r8enterrun_s at hs
 refine fe2 Tryz.func115 103 rfl (fun F => ?_)
 refine q2 (rn (al [zi, zi, zi, zi, zi, zi, zi, zi, zi, zi, zi, zi, zi, vu 0, vu 0, vu 0, vu 0, .slice none 0 0]) ?_)
 rintro b1
 refine zp (asg .const) (q3 (zp (mv m2) (zp (mv m4) ?_)))
 obtain ⟨r2, hr2, hs⟩ := bO_of hs
 refine ru (co (.cons m1 (.cons m0 .nil)) (r8choose_ok hr2 eb l pl RA RC fb fo _ _) (p1 (p1 (p1 (p1 (p1 pn)))))) (q1 (cS (cS (ct_open pick4 ?_))))
 rintro ⟨A3, c3⟩
 refine cR (zp (mv m6) (zp (nc m0) (zp (fd 1 (fo + 1) m0) (zq (ld fo 1 m0 e0 rfl) (q1 (cB (q2 (zp (eqL m0 .const) (zp (asg m0) (q1 (ci hs m0 (fun h4 hs => ?_) (fun h4 hs => ?_))))))))))))
 ·refine q2 (zp (op_build (v := .agg #[vi 12, zi, zi, zi, zi, zi, zi, zi, zi, zi, zi, zi, zi, vu 0, vu 0, vu 0, vu 0, .slice none 0 0]) (.cons .const .nil) (fun _ => by kernel_rfl)) (rz (sta 0 m11 m0 t6) (zo (asg .const) pick10 (q4 (bR (tR (pkE (p1 pn) (tE ro_dup (pkE (p2 pn) (sf r2 (tE (ro_nil (enc := encInt) (sz := 1) (A := none) (c := 0)) ?_)))))))))))
  obtain rfl := sI hs
  exact fab ((none : Option Addr), 0) e11 e7 e0 (d2 (eP (p2 (p6 (p0 (p1 (p1 (p1 (p1 pn)))))))))
 refine q2 (zp (eqL m2 .const) (zp (asg m0) (q1 (ci hs m0 (fun h5 hs => ?_) (fun h5 hs => ?_)))))
 ·refine cS (ca 11 ?_)
  refine zt 0 rfl (mv m14) ?_
  refine zt 1 rfl (nc m0) ?_
  refine zt 2 rfl (fd 11 (fo + 11) m0) ?_
  refine zt 4 rfl (mv m17) ?_
  refine zt 5 rfl (nc m0) ?_
  refine zt 6 rfl (fd 8 (fo + 8) m0) ?_
  refine at_group [3, 7, 8] 2 rfl (by kernel_rfl) rfl ?_
  refine yq (ld fo 11 m3 e0 rfl) (yq (ld fo 8 m1 e0 rfl) (yp (op_build (v := .agg #[vi 13, zi, zi, zi, zi, zi, vi r2.n, vi r2.d, zi, zi, zi, zi, zi, vu 0, vu 0, vu 0, vu 0, .slice none 0 0]) (.cons .const (.cons m1 (.cons m0 .nil))) (fun _ => by kernel_rfl)) (qN (tz 9 rfl (sta 0 (mU m1) m0 t6) ?_))))
  refine at_take 10 (by kernel_rfl) rfl rfl rfl (asg .const) wants_none (put_over (pickU pick0) (by kernel_rfl)) ?_
  refine zz ?_
  refine tT (cQ (bR (tR (pkE (p1 pn) (tE ro_dup (pkE (p2 pn) (sf r2 (tE (ro_nil (enc := encInt) (sz := 1) (A := none) (c := 0)) ?_))))))))
  obtain rfl := sI hs
  exact fab ((none : Option Addr), 0) (eU e1) e7 e0 (d2 (eP (p2 (p6 (p0 (p1 (p1 (p1 (p1 pn)))))))))
 refine q2 (zp (eqL m4 .const) (zp (asg m0) (q1 (ci hs m0 (fun h6 hs => ?_) (fun h6 hs => ?_)))))
 ·refine cS (ca 15 ?_)
  refine zt 0 rfl (mv m16) ?_
  refine zt 1 rfl (nc m0) ?_
  refine zt 2 rfl (fd 6 (fo + 6) m0) ?_
  refine zt 4 rfl (mv m19) ?_
  refine zt 5 rfl (nc m0) ?_
  refine zt 6 rfl (fd 8 (fo + 8) m0) ?_
  refine zt 8 rfl (mv (mU m2)) ?_
  refine zt 9 rfl (nc m0) ?_
  refine zt 10 rfl (fd 11 (fo + 11) m0) ?_
  refine at_group [3, 7, 11, 12] 2 rfl (by kernel_rfl) rfl ?_
  refine yq (ld fo 6 m6 e0 rfl) (yq (ld fo 8 m4 e0 rfl) (yq (ld fo 11 m2 e0 rfl) (yp (op_build (v := .agg #[vi 5, zi, zi, zi, zi, zi, vi r2.a, vi r2.d, vi r2.n, zi, zi, zi, zi, vu 0, vu 0, vu 0, vu 0, .slice none 0 0]) (.cons .const (.cons m2 (.cons m1 (.cons m0 .nil)))) (fun _ => by kernel_rfl)) (qN (tz 13 rfl (sta 0 (mU m7) m0 t6) ?_)))))
  refine at_take 14 (by kernel_rfl) rfl rfl rfl (asg .const) wants_none (put_over (pickU pick6) (by kernel_rfl)) ?_
  refine zz ?_
  refine tT (cQ (bR (tR (pkE (p1 pn) (tE ro_dup (pkE (p2 pn) (sf r2 (tE (ro_nil (enc := encInt) (sz := 1) (A := none) (c := 0)) ?_))))))))
  obtain rfl := sI hs
  exact fab ((none : Option Addr), 0) (eU e7) e7 e0 (d2 (eP (p2 (p6 (p0 (p1 (p1 (p1 (p1 pn)))))))))
 refine q2 (zp (eqL m6 .const) (zp (asg m0) (q1 (ci hs m0 (fun h7 hs => ?_) (fun h7 hs => ?_)))))
 ·refine cS (ca 11 ?_)
  refine zt 0 rfl (mv m18) ?_
  refine zt 1 rfl (nc m0) ?_
  refine zt 2 rfl (fd 6 (fo + 6) m0) ?_
  refine zt 4 rfl (mv (mU m1)) ?_
  refine zt 5 rfl (nc m0) ?_
  refine zt 6 rfl (fd 8 (fo + 8) m0) ?_
  refine at_group [3, 7, 8] 2 rfl (by kernel_rfl) rfl ?_
  refine yq (ld fo 6 m3 e0 rfl) (yq (ld fo 8 m1 e0 rfl) (yp (op_build (v := .agg #[vi 20, zi, zi, zi, zi, zi, vi r2.a, vi r2.d, zi, zi, zi, zi, zi, vu 0, vu 0, vu 0, vu 0, .slice none 0 0]) (.cons .const (.cons m1 (.cons m0 .nil))) (fun _ => by kernel_rfl)) (qN (tz 9 rfl (sta 0 (mU m5) m0 t6) ?_))))
  refine at_take 10 (by kernel_rfl) rfl rfl rfl (asg .const) wants_none (put_over (pickU pick4) (by kernel_rfl)) ?_
  refine zz ?_
  refine tT (cQ (bR (tR (pkE (p1 pn) (tE ro_dup (pkE (p2 pn) (sf r2 (tE (ro_nil (enc := encInt) (sz := 1) (A := none) (c := 0)) ?_))))))))
  obtain rfl := sI hs
  exact fab ((none : Option Addr), 0) (eU e5) e7 e0 (d2 (eP (p2 (p6 (p0 (p1 (p1 (p1 (p1 pn)))))))))
 refine cS (q2 (zp (eqL m8 .const) (zp (asg m0) (q1 (ct_cut (X := Unit) (fun _ => True) (fun _ => [(53, .bool (decide ((r2.line = 9) ∨ (r2.line = 22)))), (12, vi r2.line), (5, .bool false), (4, vp b1 0), (1, vp fb fo)]) (fun _ => pts fb fo [vi r2.kind, vi r2.line, vi r2.q.top, vi r2.q.bottom, vi r2.q.ring, vi r2.q.cap, vi r2.a, vi r2.b, vi r2.d, vi r2.i, vi r2.j, vi r2.n, vi r2.t, vu r2.u, vu r2.v, vu r2.w, vu r2.x, .slice A3 r2.l.length c3] :: roS encInt 1 A3 c3 r2.l :: cP eb c l :: cfgL c l pl :: pts eb 19 [.slice RA recs.length RC] :: recsS RA RC recs :: pts b1 0 [zi, zi, zi, zi, zi, zi, zi, zi, zi, zi, zi, zi, zi, vu 0, vu 0, vu 0, vu 0, .slice none 0 0] :: [F]) ?_ (fun _ _ => (?_ : CT _ _ _ _ _ _ _ _ _)))))))
 ·refine ct_if m0 (fun h8 => ?_) (fun h8 => ?_)
  ·exact cK (et_cut () trivial (.cons e0 (by simp only [eq_true h8, ↓reduceIte, reduceCtorEq, bS]) (lc e10 (lc e17 (lc e18 (lc (eU e0) .nil))))) Ent.refl)
  exact cR (zp (eqL m10 .const) (zo (asg m0) pick1 (rN (et_cut () trivial (.cons e0 (by simp only [eq_false h8, ↓reduceIte, reduceCtorEq, bS]) (lc e11 (lc e18 (lc e19 (lc (eU e1) .nil))))) Ent.refl))))
 refine ci hs m0 (fun h9 hs => ?_) (fun h9 hs => ?_)
 ·refine cS (ca 11 ?_)
  refine zt 0 rfl (mv m4) ?_
  refine zt 1 rfl (nc m0) ?_
  refine zt 2 rfl (fd 6 (fo + 6) m0) ?_
  refine zt 4 rfl (mv m7) ?_
  refine zt 5 rfl (nc m0) ?_
  refine zt 6 rfl (fd 11 (fo + 11) m0) ?_
  refine at_group [3, 7, 8] 2 rfl (by kernel_rfl) rfl ?_
  refine yq (ld fo 6 m3 e0 rfl) (yq (ld fo 11 m1 e0 rfl) (yp (op_build (v := .agg #[vi 14, zi, zi, zi, zi, zi, vi r2.a, vi r2.n, zi, zi, zi, zi, zi, vu 0, vu 0, vu 0, vu 0, .slice none 0 0]) (.cons .const (.cons m1 (.cons m0 .nil))) (fun _ => by kernel_rfl)) (qN (tz 9 rfl (sta 0 m12 m0 t6) ?_))))
  refine at_take 10 (by kernel_rfl) rfl rfl rfl (asg .const) wants_none (put_over pick11 (by kernel_rfl)) ?_
  refine zz ?_
  refine tT (cQ (bR (tR (pkE (p1 pn) (tE ro_dup (pkE (p2 pn) (sf r2 (tE (ro_nil (enc := encInt) (sz := 1) (A := none) (c := 0)) ?_))))))))
  obtain rfl := sI hs
  exact fab ((none : Option Addr), 0) e12 e7 e0 (d2 (eP (p2 (p6 (p0 (p1 (p1 (p1 (p1 pn)))))))))
 refine q2 (zp (eqL m1 .const) (zp (asg m0) (q1 (ci hs m0 (fun h10 hs => ?_) (fun h10 hs => ?_)))))
 ·refine cS (ca 15 ?_)
  refine zt 0 rfl (mv m6) ?_
  refine zt 1 rfl (nc m0) ?_
  refine zt 2 rfl (fd 6 (fo + 6) m0) ?_
  refine zt 4 rfl (mv m9) ?_
  refine zt 5 rfl (nc m0) ?_
  refine zt 6 rfl (fd 10 (fo + 10) m0) ?_
  refine zt 8 rfl (mv m12) ?_
  refine zt 9 rfl (nc m0) ?_
  refine zt 10 rfl (fd 12 (fo + 12) m0) ?_
  refine at_group [3, 7, 11, 12] 2 rfl (by kernel_rfl) rfl ?_
  refine yq (ld fo 6 m6 e0 rfl) (yq (ld fo 10 m4 e0 rfl) (yq (ld fo 12 m2 e0 rfl) (yp (op_build (v := .agg #[vi 17, zi, zi, zi, zi, zi, vi r2.a, vi r2.j, vi r2.t, zi, zi, zi, zi, vu 0, vu 0, vu 0, vu 0, .slice none 0 0]) (.cons .const (.cons m2 (.cons m1 (.cons m0 .nil)))) (fun _ => by kernel_rfl)) (qN (tz 13 rfl (sta 0 m18 m0 t6) ?_)))))
  refine at_take 14 (by kernel_rfl) rfl rfl rfl (asg .const) wants_none (put_over pick17 (by kernel_rfl)) ?_
  refine zz ?_
  refine tT (cQ (bR (tR (pkE (p1 pn) (tE ro_dup (pkE (p2 pn) (sf r2 (tE (ro_nil (enc := encInt) (sz := 1) (A := none) (c := 0)) ?_))))))))
  obtain rfl := sI hs
  exact fab ((none : Option Addr), 0) e18 e7 e0 (d2 (eP (p2 (p6 (p0 (p1 (p1 (p1 (p1 pn)))))))))
 refine q2 (zp (eqL m3 .const) (zp (asg m0) (q1 (ci hs m0 (fun h11 hs => ?_) (fun h11 hs => ?_)))))
 ·refine cS (ca 11 ?_)
  refine zt 0 rfl (mv m8) ?_
  refine zt 1 rfl (nc m0) ?_
  refine zt 2 rfl (fd 6 (fo + 6) m0) ?_
  refine zt 4 rfl (mv m11) ?_
  refine zt 5 rfl (nc m0) ?_
  refine zt 6 rfl (fd 11 (fo + 11) m0) ?_
  refine at_group [3, 7, 8] 2 rfl (by kernel_rfl) rfl ?_
  refine yq (ld fo 6 m3 e0 rfl) (yq (ld fo 11 m1 e0 rfl) (yp (op_build (v := .agg #[vi 15, zi, zi, zi, zi, zi, vi r2.a, vi r2.n, zi, zi, zi, zi, zi, vu 0, vu 0, vu 0, vu 0, .slice none 0 0]) (.cons .const (.cons m1 (.cons m0 .nil))) (fun _ => by kernel_rfl)) (qN (tz 9 rfl (sta 0 m16 m0 t6) ?_))))
  refine at_take 10 (by kernel_rfl) rfl rfl rfl (asg .const) wants_none (put_over pick15 (by kernel_rfl)) ?_
  refine zz ?_
  refine tT (cQ (bR (tR (pkE (p1 pn) (tE ro_dup (pkE (p2 pn) (sf r2 (tE (ro_nil (enc := encInt) (sz := 1) (A := none) (c := 0)) ?_))))))))
  obtain rfl := sI hs
  exact fab ((none : Option Addr), 0) e16 e7 e0 (d2 (eP (p2 (p6 (p0 (p1 (p1 (p1 (p1 pn)))))))))
 refine q2 (zp (eqL m5 .const) (zp (asg m0) (q1 (ci hs m0 (fun h12 hs => ?_) (fun h12 hs => ?_)))))
 ·refine cS (ca 11 ?_)
  refine zt 0 rfl (mv m10) ?_
  refine zt 1 rfl (nc m0) ?_
  refine zt 2 rfl (fd 6 (fo + 6) m0) ?_
  refine zt 4 rfl (mv m13) ?_
  refine zt 5 rfl (nc m0) ?_
  refine zt 6 rfl (fd 12 (fo + 12) m0) ?_
  refine at_group [3, 7, 8] 2 rfl (by kernel_rfl) rfl ?_
  refine yq (ld fo 6 m3 e0 rfl) (yq (ld fo 12 m1 e0 rfl) (yp (op_build (v := .agg #[vi 20, zi, zi, zi, zi, zi, vi r2.a, vi r2.t, zi, zi, zi, zi, zi, vu 0, vu 0, vu 0, vu 0, .slice none 0 0]) (.cons .const (.cons m1 (.cons m0 .nil))) (fun _ => by kernel_rfl)) (qN (tz 9 rfl (sta 0 m18 m0 t6) ?_))))
  refine at_take 10 (by kernel_rfl) rfl rfl rfl (asg .const) wants_none (put_over pick17 (by kernel_rfl)) ?_
  refine zz ?_
  refine tT (cQ (bR (tR (pkE (p1 pn) (tE ro_dup (pkE (p2 pn) (sf r2 (tE (ro_nil (enc := encInt) (sz := 1) (A := none) (c := 0)) ?_))))))))
  obtain rfl := sI hs
  exact fab ((none : Option Addr), 0) e18 e7 e0 (d2 (eP (p2 (p6 (p0 (p1 (p1 (p1 (p1 pn)))))))))
 refine cK (tB (tT (q2 (zp (op_build (v := .agg #[zi, zi, zi, zi, zi, zi, zi, zi, zi, zi, zi, zi, zi, vu 0, vu 0, vu 0, vu 0, .slice none 0 0]) .nil (fun _ => by kernel_rfl)) (rz (sta 0 m10 m0 t6) (zo (asg .const) pick9 (q4 (pkE (p1 pn) (tE ro_dup (pkE (p2 pn) (sf r2 (tE (ro_nil (enc := encInt) (sz := 1) (A := none) (c := 0)) ?_))))))))))))
 obtain rfl := sI hs
 exact fab ((none : Option Addr), 0) e10 e7 e0 (d2 (eP (p2 (p6 (p0 (p1 (p1 (p1 (p1 pn)))))))))
end Go.Proofs.YtpbkelpokpglaaaGreat
