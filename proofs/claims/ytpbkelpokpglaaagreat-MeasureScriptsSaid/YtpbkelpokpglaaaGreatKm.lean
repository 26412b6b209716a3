/- The reference, function by function: what frames act on. The reference, function by function: words. -/
import Derived.Test.YtpbkelpokpglaaaGreatKl
import Derived.Test.YtpbkelpokpglaaaGreatKk
import Derived.Test.YtpbkelpokpglaaaGreatRows
set_option linter.all false
namespace Go.Proofs.YtpbkelpokpglaaaGreat
section
open Go Go.RowKit
set_option maxRecDepth 100000
set_option maxHeartbeats 2000000
variable {c : Cfg} {m : MemV} {now draw : Int} {recs : List RecV} {evs : List Ev} {f : FrV}
def eload_s (m : MemV) (a : Int) : Int × MemV :=
 bT (r2access_s m 1 a 0 0) fun r1 =>
 (r1.1, r1.2.2)
theorem eload_ok {a : Int} {o : Int × MemV} (hs : eload_s m a = o) (eb : Nat)  (B : Nat) (W : World)  : Fn_ Tryz.prog 125 #[vp eb 0, vi a] B W [memS eb 11 m] (X := Unit) (fun x => vu o.1) (fun x => [memS eb 11 o.2]) := by
 unfold eload_s at hs
 refine fe2 Tryz.func125 16 rfl (fun F => ?_)
 refine q2 (zp (asg .const) (q3 (zp (mv m1) (zp (nc m0) (zp (fd 11 11 m0) (zp (mv m5) ?_))))))
 obtain ⟨r1, hr1, hs⟩ := bF hs
 refine ru (co (.cons m1 (.cons .const (.cons m0 (.cons .const (.cons .const .nil))))) (r2access_ok hr1 eb 11 _ _) (p0 pn)) (zp (mv m0) (zp (op_extract m0 rfl) (zp (op_extract m1 rfl) (zp (asg m1) (zp (asg m1) (q3 (zp (mv m1) (zo (asg m0) pick11 (q4 ?_)))))))))
 subst hs
 exact et_fn () rfl (.cons e0 .nil) rfl Ent.refl
def estore_s (m : MemV) (a : Int) (v : Int) : MemV :=
 bT (r2access_s m 2 a v 0) fun r1 =>
 r1.2.2
theorem estore_ok {a : Int} {v : Int} {o : MemV} (hs : estore_s m a v = o) (eb : Nat)  (B : Nat) (W : World)  : Fn_ Tryz.prog 128 #[vp eb 0, vi a, vu v] B W [memS eb 11 m] (X := Unit) (fun x => .tuple #[]) (fun x => [memS eb 11 o]) := by
 unfold estore_s at hs
 refine fe3 Tryz.func128 12 rfl (fun F => ?_)
 refine cR (zp (mv m0) (zp (nc m0) (zp (fd 11 11 m0) (zp (mv m4) (zp (mv m6) ?_)))))
 obtain ⟨r1, hr1, hs⟩ := bF hs
 refine ru (co (.cons m2 (.cons .const (.cons m1 (.cons m0 (.cons .const .nil))))) (r2access_ok hr1 eb 11 _ _) (p0 pn)) (rN ?_)
 subst hs
 exact et_fn_end () rfl .nil rfl (Ent.picks (p0 .nil))
def ecas_s (m : MemV) (a : Int) (old : Int) (v : Int) : Bool × MemV :=
 bT (r2access_s m 3 a old v) fun r1 =>
 (r1.2.1, r1.2.2)
theorem ecas_ok {a : Int} {old : Int} {v : Int} {o : Bool × MemV} (hs : ecas_s m a old v = o) (eb : Nat)  (B : Nat) (W : World)  : Fn_ Tryz.prog 127 #[vp eb 0, vi a, vu old, vu v] B W [memS eb 11 m] (X := Unit) (fun x => .bool (o.1)) (fun x => [memS eb 11 o.2]) := by
 unfold ecas_s at hs
 refine fe4 Tryz.func127 22 rfl (fun F => ?_)
 refine q2 (zp (asg .const) (q3 (zp (mv m1) (zp (nc m0) (zp (fd 11 11 m0) (zp (mv m5) (zp (mv m7) (zp (mv m9) ?_))))))))
 obtain ⟨r1, hr1, hs⟩ := bF hs
 refine ru (co (.cons m3 (.cons .const (.cons m2 (.cons m1 (.cons m0 .nil))))) (r2access_ok hr1 eb 11 _ _) (p0 pn)) (zp (mv m0) (zp (op_extract m0 rfl) (zp (op_extract m1 rfl) (zp (asg m1) (zp (asg m1) (q3 (zp (mv m0) (zo (asg m0) pick13 (q4 ?_)))))))))
 subst hs
 exact et_fn () rfl (.cons e0 .nil) rfl Ent.refl
def eor_s (m : MemV) (a : Int) (v : Int) : Int × MemV :=
 bT (r2access_s m 4 a v 0) fun r1 =>
 (r1.1, r1.2.2)
theorem eor_ok {a : Int} {v : Int} {o : Int × MemV} (hs : eor_s m a v = o) (eb : Nat)  (B : Nat) (W : World)  : Fn_ Tryz.prog 121 #[vp eb 0, vi a, vu v] B W [memS eb 11 m] (X := Unit) (fun x => vu o.1) (fun x => [memS eb 11 o.2]) := by
 unfold eor_s at hs
 refine fe3 Tryz.func121 19 rfl (fun F => ?_)
 refine q2 (zp (asg .const) (q3 (zp (mv m1) (zp (nc m0) (zp (fd 11 11 m0) (zp (mv m5) (zp (mv m7) ?_)))))))
 obtain ⟨r1, hr1, hs⟩ := bF hs
 refine ru (co (.cons m2 (.cons .const (.cons m1 (.cons m0 (.cons .const .nil))))) (r2access_ok hr1 eb 11 _ _) (p0 pn)) (zp (mv m0) (zp (op_extract m0 rfl) (zp (op_extract m1 rfl) (zp (asg m1) (zp (asg m1) (q3 (zp (mv m1) (zo (asg m0) pick12 (q4 ?_)))))))))
 subst hs
 exact et_fn () rfl (.cons e0 .nil) rfl Ent.refl
def eand_s (m : MemV) (a : Int) (v : Int) : Int × MemV :=
 bT (r2access_s m 5 a v 0) fun r1 =>
 (r1.1, r1.2.2)
theorem eand_ok {a : Int} {v : Int} {o : Int × MemV} (hs : eand_s m a v = o) (eb : Nat)  (B : Nat) (W : World)  : Fn_ Tryz.prog 162 #[vp eb 0, vi a, vu v] B W [memS eb 11 m] (X := Unit) (fun x => vu o.1) (fun x => [memS eb 11 o.2]) := by
 unfold eand_s at hs
 refine fe3 Tryz.func162 19 rfl (fun F => ?_)
 refine q2 (zp (asg .const) (q3 (zp (mv m1) (zp (nc m0) (zp (fd 11 11 m0) (zp (mv m5) (zp (mv m7) ?_)))))))
 obtain ⟨r1, hr1, hs⟩ := bF hs
 refine ru (co (.cons m2 (.cons .const (.cons m1 (.cons m0 (.cons .const .nil))))) (r2access_ok hr1 eb 11 _ _) (p0 pn)) (zp (mv m0) (zp (op_extract m0 rfl) (zp (op_extract m1 rfl) (zp (asg m1) (zp (asg m1) (q3 (zp (mv m1) (zo (asg m0) pick12 (q4 ?_)))))))))
 subst hs
 exact et_fn () rfl (.cons e0 .nil) rfl Ent.refl
def eadd_s (m : MemV) (a : Int) (v : Int) : Int × MemV :=
 bT (r2access_s m 6 a v 0) fun r1 =>
 (r1.1, r1.2.2)
theorem eadd_ok {a : Int} {v : Int} {o : Int × MemV} (hs : eadd_s m a v = o) (eb : Nat)  (B : Nat) (W : World)  : Fn_ Tryz.prog 165 #[vp eb 0, vi a, vu v] B W [memS eb 11 m] (X := Unit) (fun x => vu o.1) (fun x => [memS eb 11 o.2]) := by
 unfold eadd_s at hs
 refine fe3 Tryz.func165 19 rfl (fun F => ?_)
 refine q2 (zp (asg .const) (q3 (zp (mv m1) (zp (nc m0) (zp (fd 11 11 m0) (zp (mv m5) (zp (mv m7) ?_)))))))
 obtain ⟨r1, hr1, hs⟩ := bF hs
 refine ru (co (.cons m2 (.cons .const (.cons m1 (.cons m0 (.cons .const .nil))))) (r2access_ok hr1 eb 11 _ _) (p0 pn)) (zp (mv m0) (zp (op_extract m0 rfl) (zp (op_extract m1 rfl) (zp (asg m1) (zp (asg m1) (q3 (zp (mv m1) (zo (asg m0) pick12 (q4 ?_)))))))))
 subst hs
 exact et_fn () rfl (.cons e0 .nil) rfl Ent.refl
def etask_s (c : Cfg) (recs : List RecV) (t : Int) : Bool :=
 (decide ((0 ≤ t) ∧ ((t < c.tasks) ∧ (t < ((recs.length : Nat) : Int)))))
theorem etask_ok {t : Int} {o : Bool} (hs : etask_s c recs t = o) (eb : Nat) (l : CfgAt) (RA : Option Addr) (RC : Nat)  (B : Nat) (W : World)  : Fn_ Tryz.prog 113 #[vp eb 0, vi t] B W [cP eb c l, pts eb 19 [.slice RA recs.length RC]] (X := Unit) (fun x => .bool (o)) (fun x => [cP eb c l, pts eb 19 [.slice RA recs.length RC]]) := by
 unfold etask_s at hs
 refine fe2 Tryz.func113 25 rfl (fun F => ?_)
 refine q2 (zp (asg .const) (q1 (cS (ct_cut (X := Unit) (fun _ => True) (fun _ => [(4, .bool (decide ((0 ≤ t) ∧ ((t < c.tasks) ∧ (t < ((recs.length : Nat) : Int))))))]) (fun _ => cP eb c l :: pts eb 19 [.slice RA recs.length RC] :: [F]) ?_ (fun _ _ => (?_ : CT _ _ _ _ _ _ _ _ _))))))
 ·refine cR (zp (mv m2) (zp (op_geq m0 .const) (zp (mv m0) (rt_case t0 t0 (fun h1 => ?_) (fun h1 => ?_)))))
  ·refine zw (mv m5).q rfl rfl e0 (zw (mv m5).q rfl rfl e1 (zw (nc m0).q rfl rfl e2 (zw (fd 0 0 m0).q rfl rfl e3 (zw (fd 3 3 m0).q rfl rfl e4 (zw (ld 0 3 m0 e0 rfl) rfl rfl e5 (zw (op_lss m5 m0).q rfl rfl e6 (zp (op_pick (b := true) m7 m0) (zp (mv m0) (rt_case t0 t0 (fun h2 => ?_) (fun h2 => ?_))))))))))
   ·exact zw (mv m14).q rfl rfl e0 (zw (mv m14).q rfl rfl e1 (zw (nc m0).q rfl rfl e2 (zw (fd 19 19 m0).q rfl rfl e3 (zw (ld 19 0 m0 e1 rfl) rfl rfl e4 (zw (op_len m0 Tryz.underlying55).q rfl rfl e5 (zw (op_lss m5 m0).q rfl rfl e6 (zp (op_pick (b := true) m7 m0) (zo (asg m0) (pickU pick0) (rN (et_cut () trivial (.cons e0 (by simp only [eq_true h1, eq_true h2, ↓reduceIte, reduceCtorEq, bS]) .nil) Ent.refl))))))))))
   exact zk rfl rfl e0 (zk rfl rfl e1 (zk rfl rfl e2 (zk rfl rfl e3 (zk rfl rfl e4 (zk rfl rfl e5 (zk rfl rfl e6 (zp (op_pick (b := false) m7 .const) (zo (asg m0) (pickU pick0) (rN (et_cut () trivial (.cons e0 (by simp only [eq_true h1, eq_false h2, ↓reduceIte, reduceCtorEq, bS]) .nil) Ent.refl))))))))))
  exact zk rfl rfl e0 (zk rfl rfl e1 (zk rfl rfl e2 (zk rfl rfl e3 (zk rfl rfl e4 (zk rfl rfl e5 (zk rfl rfl e6 (zp (op_pick (b := false) m7 .const) (zp (mv m0) (zk rfl rfl e0 (zk rfl rfl e1 (zk rfl rfl e2 (zk rfl rfl e3 (zk rfl rfl e4 (zk rfl rfl e5 (zk rfl rfl e6 (zp (op_pick (b := false) m7 .const) (zo (asg m0) (pickU pick0) (rN (et_cut () trivial (.cons e0 (by simp only [eq_false h1, ↓reduceIte, reduceCtorEq, bS]) .nil) Ent.refl)))))))))))))))))))
 refine cQ ?_
 subst hs
 exact et_fn () rfl (.cons e0 .nil) rfl Ent.refl
def eemit_s (evs : List Ev) (kind : Int) (worker : Int) (task : Int) (other : Int) (level : Int) : Option ((List Ev)) :=
 if (evs.length : Int) < 1000000000000 then
 some (evs ++ [(⟨kind, worker, task, other, level⟩ : Ev)])
 else none
theorem eemit_ok {kind : Int} {worker : Int} {task : Int} {other : Int} {level : Int} {o : (List Ev)} (hs : eemit_s evs kind worker task other level = some o) (eb : Nat)  (B : Nat) (W : World)  : Fn_ Tryz.prog 141 #[vp eb 0, vi kind, vi worker, vi task, vi other, vi level] B W [evsS eb 20 evs] (X := Unit) (fun x => .tuple #[]) (fun x => [evsS eb 20 o]) := by
 unfold eemit_s at hs
 refine fe6 Tryz.func141 27 rfl (fun F => ?_)
 refine cR (zp (mv m0) (zp (mv m1) (zp (nc m0) (zp (fd 20 20 m0) (rt_open pick0 ?_)))))
 rintro ⟨A1, c1⟩
 refine zq (ld 20 0 m0 e0 rfl) (zp (mv m6) (zp (mv m8) (zp (mv m10) (zp (mv m12) (zp (mv m14) (zp (op_build (v := .agg #[vi kind, vi worker, vi task, vi other, vi level]) (.cons m4 (.cons m3 (.cons m2 (.cons m1 (.cons m0 .nil))))) (fun _ => by kernel_rfl)) (rn (ot_buildSlice (T' := 83) (us := [vi kind, vi worker, vi task, vi other, vi level]) (.cons m0 .nil) (fun _ => by kernel_rfl)) ?_)))))))
 rintro b2
 obtain ⟨g3, hs⟩ := gO hs
 refine rn (ot_append (by_ := 40) (z := .agg #[zi, zi, zi, zi, zi]) m7 m0 (p2 (p0 .nil)) Tryz.underlying56 (infoB_of (by kernel_rfl)) rfl (by decide) rfl rfl (by decide) (by unfold maxLen; omega) (by omega)) ?_
 rintro ⟨A4, c4⟩
 refine zp (nc m12) (zp (fd 20 20 m0) (rz (st1 20 w0 m0 m2 t1) (rN (pkE (p1 pn) (tE (evs_shut (l := (evs ++ [(⟨kind, worker, task, other, level⟩ : Ev)])) (by simp) (by simp [Ev.enc])) ?_)))))
 obtain rfl := sI hs
 exact et_fn_end () rfl .nil rfl (Ent.picks (p0 .nil))
def eprogram_s (c : Cfg) (recs : List RecV) (t : Int) : Option ((List Ins)) :=
 if 0 ≤ t ∧ t < (recs.length : Int) then
 if ((at_ recs t).prog < 0) ∨ (((c.progs.length : Nat) : Int) ≤ (at_ recs t).prog) then
  some ([])
 else
 if 0 ≤ (at_ recs t).prog ∧ (at_ recs t).prog < (c.progs.length : Int) then
 some (at_ c.progs ((at_ recs t).prog))
 else none
 else none
theorem eprogram_ok {t : Int} {o : (List Ins)} (hs : eprogram_s c recs t = some o) (eb : Nat) (l : CfgAt) (pl : List (Option Addr × Nat)) (RA : Option Addr) (RC : Nat)  (B : Nat) (W : World)  : Fn_ Tryz.prog 177 #[vp eb 0, vi t] B W [cP eb c l, cfgL c l pl, pts eb 19 [.slice RA recs.length RC], recsS RA RC recs] (X := Option Addr × Nat) (fun x => .slice x.1 o.length x.2) (fun x => [rdS Ins.enc 3 x.1 o, cP eb c l, cfgL c l pl, pts eb 19 [.slice RA recs.length RC], recsS RA RC recs]) := by
 unfold eprogram_s at hs
 refine fe2 Tryz.func177 34 rfl (fun F => ?_)
 refine q2 (zp (asg .const) (q3 (zp (mv m1) (zp (nc m0) (zp (fd 19 19 m0) (zq (ld 19 0 m0 e2 rfl) (zp (mv m6) ?_)))))))
 obtain ⟨g1, hs⟩ := gO hs
 refine rt_focus (t).toNat pick3 (by omega) (fun rb2 ro2 hA3 => ?_)
 subst hA3
 rw [at_eq (by omega)]
 refine rt_open pick0 ?_
 rintro ⟨A4, c4⟩
 refine zp (op_index (i := (t).toNat) (o' := ro2 + (t).toNat * 7) m1 m0 (by omega) (by omega) (by kernel_rfl) rfl) (zp (fd 0 (ro2 + (t).toNat * 7) m0) (zq (ld (ro2 + (t).toNat * 7) 0 m0 e0 rfl) (zp (asg m0) (q1 (cS (cS (ct_cut (X := Unit) (fun _ => True) (fun _ => [(25, .bool (decide (((at_ recs t).prog < 0) ∨ (((c.progs.length : Nat) : Int) ≤ (at_ recs t).prog)))), (5, vi ((at_ recs t).prog)), (4, .slice none 0 0), (0, vp eb 0)]) (fun _ => pts rb2 (ro2 + (t).toNat * 7) [vi ((at_ recs t).prog), vi ((at_ recs t).parent), vi ((at_ recs t).pc), vi ((at_ recs t).left), vi ((at_ recs t).waiting), .slice A4 ((at_ recs t).kids.length) c4, .bool ((at_ recs t).started)] :: roS encInt 1 A4 c4 ((at_ recs t).kids) :: holeI recC RecV.kids 7 rb2 ro2 RC recs ((t).toNat) :: cP eb c l :: cfgL c l pl :: pts eb 19 [.slice (some ⟨rb2, ro2, none⟩) recs.length RC] :: [F]) ?_ (fun _ _ => (?_ : CT _ _ _ _ _ _ _ _ _)))))))))
 ·refine cR (zp (mv m0) (zp (op_lss m0 .const) (zp (mv m0) (rt_case t0 t0 (fun h5 => ?_) (fun h5 => ?_)))))
  ·exact zk rfl rfl e0 (zk rfl rfl e1 (zk rfl rfl e2 (zk rfl rfl e3 (zk rfl rfl e4 (zk rfl rfl e5 (zk rfl rfl e6 (zk rfl rfl e7 (zp (op_pick (b := true) m8 .const) (rN (et_cut () trivial (.cons e0 (by simp only [eq_true h5, ↓reduceIte, reduceCtorEq, bS]) (lc e12 (lc (eU e1) (lc (eU e2) .nil)))) Ent.refl))))))))))
  exact zw (mv m3).q rfl rfl e0 (zw (mv m14).q rfl rfl e1 (zw (nc m0).q rfl rfl e2 (zw (fd 0 0 m0).q rfl rfl e3 (zw (fd 9 9 m0).q rfl rfl e4 (zw (ld 0 9 m0 e3 rfl) rfl rfl e5 (zw (op_len m0 Tryz.underlying25).q rfl rfl e6 (zw (op_geq m6 m0).q rfl rfl e7 (zp (op_pick (b := false) m8 m0) (rN (et_cut () trivial (.cons e0 (by simp only [eq_false h5, ↓reduceIte, reduceCtorEq, bS]) (lc e12 (lc (eU e1) (lc (eU e2) .nil)))) Ent.refl))))))))))
 refine ci hs m0 (fun h6 hs => ?_) (fun h6 hs => ?_)
 ·refine q2 (zo (asg .const) pick2 (q4 (tR (pkE (p1 pn) (tE ro_dup (pkE (p2 pn) (sr (at_ recs t) ?_)))))))
  refine pkE (p0 (p1 pn)) (tE (unfocus (xs := recs) (by have := g1; omega)) ?_)
  rw [set_at g1]
  refine tE (rd_nil (enc := Ins.enc) (sz := 3) (A := none)) ?_
  obtain rfl := sI hs
  exact et_fn (vs := [.slice none 0 0]) ((none : Option Addr), 0) rfl (.cons e0 .nil) rfl (d1 (eP (p2 (p0 (p1 (p1 (p1 pn)))))))
 refine cK (tT (q2 (zp (mv m3) (zp (nc m0) (zp (fd 0 0 m0) (zp (fd 9 9 m0) (zq (ld 0 9 m0 e3 rfl) (zp (mv m6) ?_))))))))
 obtain ⟨g7, hs⟩ := gO hs
 refine zq (oq_indexP m1 m0 e4 g7 rfl (by kernel_rfl) rfl) (zq (oq_loadP m0 e4 g7 (by kernel_rfl)) (zo (asg m0) pick10 (q4 (pkE (p1 pn) (tE ro_dup (pkE (p2 pn) (sr (at_ recs t) ?_)))))))
 refine pkE (p0 (p1 pn)) (tE (unfocus (xs := recs) (by have := g1; omega)) ?_)
 rw [set_at g1]
 refine et_se (rd_prog e3 g7) ?_
 obtain rfl := sI hs
 exact et_fn (vs := [.slice (at_ pl ((at_ recs t).prog)).1 ((at_ c.progs ((at_ recs t).prog)).length) ((at_ pl ((at_ recs t).prog)).2)]) (((at_ pl ((at_ recs t).prog)).1 : Option Addr), (at_ pl ((at_ recs t).prog)).2) rfl (.cons e0 .nil) rfl (d1 (eP (p2 (p0 (p1 (p1 (p1 pn)))))))
def r8fresh_s (prog : Int) (parent : Int) : RecV :=
 (⟨prog, parent, 0, 0, (-1), [], false⟩ : RecV)
theorem r8fresh_ok {prog : Int} {parent : Int} {o : RecV} (hs : r8fresh_s prog parent = o)   (B : Nat) (W : World)  : Fn_ Tryz.prog 57 #[vi prog, vi parent] B W [] (X := Option Addr × Nat) (fun x => .agg #[vi o.prog, vi o.parent, vi o.pc, vi o.left, vi o.waiting, .slice x.1 o.kids.length x.2, .bool (o.started)]) (fun x => [roS encInt 1 x.1 x.2 o.kids]) := by
 unfold r8fresh_s at hs
 refine fe2 Tryz.func57 8 rfl (fun F => ?_)
 refine q2 (rn (al [zi, zi, zi, zi, zi, .slice none 0 0, .bool false]) ?_)
 rintro b1
 refine q3 (zp (mv m1) (zp (mv m3) (zp (op_build (v := .agg #[vi prog, vi parent, zi, zi, vi ((-1)), .slice none 0 0, .bool false]) (.cons m1 (.cons m0 (.cons .const .nil))) (fun _ => by kernel_rfl)) (rz (sta 0 m3 m0 t0) (q4 (tE (ro_nil (enc := encInt) (sz := 1) (A := none) (c := 0)) ?_))))))
 subst hs
 exact et_fn (vs := [.agg #[vi prog, vi parent, zi, zi, vi ((-1)), .slice none 0 0, .bool false]]) ((none : Option Addr), 0) rfl (.cellA (m := 7) (ws := [vi prog, vi parent, zi, zi, vi ((-1)), .slice none 0 0, .bool false]) e3 e1 (by kernel_rfl) rfl rfl .nil) rfl (d1 (eP (p1 pn)))
def ftaskof_s (f : FrV) : Int :=
 if f.kind = 13 then
  f.a
 else
 f.b
theorem ftaskof_ok {o : Int} (hs : ftaskof_s f = o) (fb fo : Nat)  (B : Nat) (W : World)  : Fn_ Tryz.prog 169 #[vp fb fo] B W [frS fb fo f] (X := Unit) (fun x => vi o) (fun x => [frS fb fo f]) := by
 unfold ftaskof_s at hs
 refine fe1 Tryz.func169 16 rfl (fun F => ?_)
 refine q2 (zp (asg .const) (q1 (cS (cS (ct_open pick0 ?_)))))
 rintro ⟨A1, c1⟩
 refine cR (zp (mv m1) (zp (nc m0) (zp (fd 0 fo m0) (zq (ld fo 0 m0 e0 rfl) (zp (eqL m0 .const) (q1 (ci hs m0 (fun h2 hs => ?_) (fun h2 hs => ?_))))))))
 ·refine q2 (zp (mv m6) (zp (nc m0) (zp (fd 6 (fo + 6) m0) (zq (ld fo 6 m0 e0 rfl) (zo (asg m0) pick9 (q4 (tR (pkE (p1 pn) (tE ro_dup (pkE (p2 pn) (sf f ?_)))))))))))
  subst hs
  exact et_fn () rfl (.cons e0 .nil) rfl (d1 (eP (p1 pn)))
 refine cK (tT (q2 (zp (mv m6) (zp (nc m0) (zp (fd 7 (fo + 7) m0) (zq (ld fo 7 m0 e0 rfl) (zo (asg m0) pick9 (q4 (pkE (p1 pn) (tE ro_dup (pkE (p2 pn) (sf f ?_))))))))))))
 subst hs
 exact et_fn () rfl (.cons e0 .nil) rfl (d1 (eP (p1 pn)))
def r8child_s (f : FrV) : Int :=
 if (wi ((wi (2 * f.i)) + 1)) < (wi (f.n - 1)) then
  5
 else
 8
theorem r8child_ok {o : Int} (hs : r8child_s f = o) (fb fo : Nat)  (B : Nat) (W : World)  : Fn_ Tryz.prog 166 #[vp fb fo] B W [frS fb fo f] (X := Unit) (fun x => vi o) (fun x => [frS fb fo f]) := by
 unfold r8child_s at hs
 refine fe1 Tryz.func166 15 rfl (fun F => ?_)
 refine q2 (zp (asg .const) (q1 (cS (cS (ct_open pick0 ?_)))))
 rintro ⟨A1, c1⟩
 refine ct_draw (by kernel_rfl) (by kernel_rfl) ?_
 refine yp (mv m1) (yp (nc m0) (yp (fd 9 (fo + 9) m0) (yq (ld fo 9 m0 e0 rfl) (yp (op_mulI .const m0) (yp (aI m0 .const) (yp (mv m7) (yp (nc m0) (yp (fd 11 (fo + 11) m0) (yq (ld fo 11 m0 e0 rfl) (yp (op_subI m0 .const) (yp (op_lss m5 m0) (qN (tT (ci hs m0 (fun h2 hs => ?_) (fun h2 hs => ?_)))))))))))))))
 ·refine q2 (zo (asg .const) pick12 (q4 (tR (pkE (p1 pn) (tE ro_dup (pkE (p2 pn) (sf f ?_)))))))
  subst hs
  exact et_fn () rfl (.cons e0 .nil) rfl (d1 (eP (p1 pn)))
 refine cK (tT (q2 (zo (asg .const) pick12 (q4 (pkE (p1 pn) (tE ro_dup (pkE (p2 pn) (sf f ?_))))))))
 subst hs
 exact et_fn () rfl (.cons e0 .nil) rfl (d1 (eP (p1 pn)))
def r8lesser_s (f : FrV) : Int :=
 if f.w < f.v then
  7
 else
 8
theorem r8lesser_ok {o : Int} (hs : r8lesser_s f = o) (fb fo : Nat)  (B : Nat) (W : World)  : Fn_ Tryz.prog 167 #[vp fb fo] B W [frS fb fo f] (X := Unit) (fun x => vi o) (fun x => [frS fb fo f]) := by
 unfold r8lesser_s at hs
 refine fe1 Tryz.func167 12 rfl (fun F => ?_)
 refine q2 (zp (asg .const) (q1 (cS (cS (ct_open pick0 ?_)))))
 rintro ⟨A1, c1⟩
 refine ct_draw (by kernel_rfl) (by kernel_rfl) ?_
 refine yp (mv m1) (yp (nc m0) (yp (fd 15 (fo + 15) m0) (yq (ld fo 15 m0 e0 rfl) (yp (mv m5) (yp (nc m0) (yp (fd 14 (fo + 14) m0) (yq (ld fo 14 m0 e0 rfl) (yp (op_lss m4 m0) (qN (tT (ci hs m0 (fun h2 hs => ?_) (fun h2 hs => ?_))))))))))))
 ·refine q2 (zo (asg .const) pick9 (q4 (tR (pkE (p1 pn) (tE ro_dup (pkE (p2 pn) (sf f ?_)))))))
  subst hs
  exact et_fn () rfl (.cons e0 .nil) rfl (d1 (eP (p1 pn)))
 refine cK (tT (q2 (zo (asg .const) pick9 (q4 (pkE (p1 pn) (tE ro_dup (pkE (p2 pn) (sf f ?_))))))))
 subst hs
 exact et_fn () rfl (.cons e0 .nil) rfl (d1 (eP (p1 pn)))
def r8top_s (f : FrV) : Option (Int) :=
 if 0 ≤ (wi (((f.l.length : Nat) : Int) - 1)) ∧ (wi (((f.l.length : Nat) : Int) - 1)) < (f.l.length : Int) then
 some (at_ f.l (wi (((f.l.length : Nat) : Int) - 1)))
 else none
theorem r8top_ok {o : Int} (hs : r8top_s f = some o) (fb fo : Nat)  (B : Nat) (W : World)  : Fn_ Tryz.prog 176 #[vp fb fo] B W [frS fb fo f] (X := Unit) (fun x => vi o) (fun x => [frS fb fo f]) := by
 unfold r8top_s at hs
 refine fe1 Tryz.func176 15 rfl (fun F => ?_)
 refine q2 (zp (asg .const) (q1 (cS (ct_open pick0 ?_))))
 rintro ⟨A1, c1⟩
 refine ct_draw (by kernel_rfl) (by kernel_rfl) ?_
 refine yp (mv m1) (yp (nc m0) (yp (fd 17 (fo + 17) m0) (yq (ld fo 17 m0 e0 rfl) (yp (mv m5) (yp (nc m0) (yp (fd 17 (fo + 17) m0) (yq (ld fo 17 m0 e0 rfl) (yp (op_len m0 Tryz.underlying23) (yp (op_subI m0 .const) ?_)))))))))
 obtain ⟨g2, hs⟩ := gO hs
 refine yq (oq_indexD (enc := encInt) (sz' := 1) (sz := 1) (xs := f.l) m6 m0 (rd_ro e1) g2 rfl (by kernel_rfl) (Nat.mul_one _)) (yq (oq_loadD1 (enc := encInt) (sz := 1) (i := ((wi (((f.l.length : Nat) : Int) - 1))).toNat) (j := 0) (xs := f.l) m0 (rd_ro e1) (at_get g2) rfl (by omega) (by kernel_rfl)) (qt_q (asg m0).q wants_none (put_over pick12 (by kernel_rfl)) ?_))
 refine qN (tT (cQ (pkE (p1 pn) (tE ro_dup (pkE (p2 pn) (sf f ?_))))))
 obtain rfl := sI hs
 exact et_fn () rfl (.cons e0 .nil) rfl (d1 (eP (p1 pn)))
def r8leave_s (f : FrV) : Option (ResV × FrV) :=
 if 0 ≤ (wi (((f.l.length : Nat) : Int) - 1)) ∧ (wi (((f.l.length : Nat) : Int) - 1)) ≤ (f.l.length : Int) then
 if (((f.l.take ((wi (((f.l.length : Nat) : Int) - 1))).toNat).length : Nat) : Int) = 0 then
  some ((r8end_s 0 0), ({ f with line := 1, l := (f.l.take ((wi (((f.l.length : Nat) : Int) - 1))).toNat) } : FrV))
 else
 some ((⟨false, 0, 0⟩ : ResV), ({ f with line := 1, l := (f.l.take ((wi (((f.l.length : Nat) : Int) - 1))).toNat) } : FrV))
 else none
theorem r8leave_ok {o : ResV × FrV} (hs : r8leave_s f = some o) (fb fo : Nat)  (B : Nat) (W : World)  : Fn_ Tryz.prog 180 #[vp fb fo] B W [frS fb fo f] (X := Unit) (fun x => .agg #[.bool (o.1.done), vi o.1.code, vi o.1.value]) (fun x => [frS fb fo o.2]) := by
 unfold r8leave_s at hs
 refine fe1 Tryz.func180 28 rfl (fun F => ?_)
 refine q2 (rn (al [.bool false, zi, zi]) ?_)
 rintro b1
 refine q1 (cS (ct_open pick1 ?_))
 rintro ⟨A2, c2⟩
 refine ct_fact (fun _ hw => (ro_sl hw.2.2 e1).2) (fun hc3 => ?_)
 refine ca 15 ?_
 refine zt 0 rfl (mv m1) ?_
 refine zt 1 rfl (mv m2) ?_
 refine zt 2 rfl (nc m0) ?_
 refine zt 3 rfl (fd 17 (fo + 17) m0) ?_
 refine zt 5 rfl (mv m5) ?_
 refine zt 6 rfl (nc m0) ?_
 refine zt 7 rfl (fd 17 (fo + 17) m0) ?_
 refine at_group [4, 8, 9, 10, 11, 12, 13] 1 rfl (by kernel_rfl) rfl ?_
 refine yq (ld fo 17 m3 e0 rfl) (yq (ld fo 17 m1 e0 rfl) (yp (op_len m0 Tryz.underlying23) (yp (op_subI m0 .const) ?_)))
 obtain ⟨g4, hs⟩ := gO hs
 refine yp (op_sliceH (xs := f.l) m3 Tryz.underlying23 (by kernel_rfl : _ = 1) (by omega) m0 g4 hc3) (yp (nc m11) (yp (fd 17 (fo + 17) m0) (qN (tz 14 rfl (st1 fo w17 m0 m2 t0) ?_))))
 refine zz ?_
 refine tT (q2 (zp (mv m15) (zp (nc m0) (zp (fd 1 (fo + 1) m0) (rz (st1 fo w1 m0 .const t0) (q1 (cS (q2 (zp (mv m18) (zp (nc m0) (zp (fd 17 (fo + 17) m0) (zq (ld fo 17 m0 e0 rfl) (zp (op_len m0 Tryz.underlying23) (zp (eqL m0 .const) (q1 (ci hs m0 (fun h5 hs => ?_) (fun h5 hs => ?_)))))))))))))))))
 ·refine q2 (zq (cq (.cons .const (.cons .const .nil)) (r8end_ok (o := r8end_s 0 0) rfl  _ _) pn) (rz (sta 0 (mU m4) m0 t2) (q4 (tR (pkE (p1 pn) (tE (ro_take (k := ((wi (((f.l.length : Nat) : Int) - 1))).toNat)) (pkE (p2 pn) (sf ({ f with line := 1, l := (f.l.take ((wi (((f.l.length : Nat) : Int) - 1))).toNat) } : FrV) ?_))))))))
  obtain rfl := sI hs
  exact fa (eU e4) e2 (d2 (eP (p1 (p1 pn))))
 refine cK (tT (q2 (zp bz (rz (sta 0 (mU m4) m0 t2) (q4 (pkE (p1 pn) (tE (ro_take (k := ((wi (((f.l.length : Nat) : Int) - 1))).toNat)) (pkE (p2 pn) (sf ({ f with line := 1, l := (f.l.take ((wi (((f.l.length : Nat) : Int) - 1))).toNat) } : FrV) ?_)))))))))
 obtain rfl := sI hs
 exact fa (eU e4) e2 (d2 (eP (p1 (p1 pn))))
end
section
open Go Go.RowKit
set_option maxRecDepth 100000
set_option maxHeartbeats 2000000
variable {c : Cfg} {m : MemV} {now draw : Int} {recs : List RecV} {evs : List Ev} {f : FrV}
def r1power_l1  : Nat → Int × Int → Option (Int × Int)
 | 0, _ => none
 | k + 1, y1 =>
  if 0 < y1.1 then
   r1power_l1 k ((wi (y1.1 - 1)), (wu (y1.2 * 2)))
  else
  some (y1.1, y1.2)
def r1power_s (i : Int) : Option (Int) :=
 (r1power_l1 (i.toNat + 1) (i, 1)).bind fun z1 =>
 some z1.2
theorem r1power_ok {i : Int} {o : Int} (hs : r1power_s i = some o)   (B : Nat) (W : World)  : Fn_ Tryz.prog 158 #[vi i] B W [] (X := Unit) (fun x => vu o) (fun x => []) := by
 unfold r1power_s at hs
 refine fe1 Tryz.func158 11 rfl (fun F => ?_)
 refine q2 (zp (asg .const) (q3 (zp (asg .const) (q1 (cS ?_)))))
 obtain ⟨z1, hz1, hs⟩ := bO_of hs
 refine ct_cutG (S := Int × Int) (G := Unit) (fun zw => z1 = zw) (fun z1 _ => [(3, vu z1.2), (2, vu 0)]) (fun z1 _ => [F]) ?_ (fun z1w _ hy1 => (?_ : CT _ _ _ _ _ _ _ _ _))
 ·refine cB (ct_loopK (S := Int × Int) (G := Unit) (fun k y1 => r1power_l1 k y1 = some z1) (fun _ h => by rw [r1power_l1] at h; cases h) (fun y1 _ => [(3, vu y1.2), (2, vu 0), (0, vi y1.1)]) (fun y1 _ => [F]) (i.toNat + 1) (i, 1) () hz1 (lc e0 (lc e1 (lc e2 .nil))) Ent.refl (fun k1 y1 _ hz => ?_))
  clear hz1
  have hz1 := hz; clear hz
  rw [r1power_l1] at hz1
  refine cS (q2 (zp (mv m2) (zp (op_gtr m0 .const) (q1 (ci hz1 m0 (fun h1 hz1 => ?_) (fun h1 hz1 => ?_))))))
  ·exact cK (tT (cS (cB (cR (zp (mv m2) (zp (op_mulU m0 .const) (zo (asg m0) pick4 (rN (tB (tT (cR (zp (mv m6) (zp (op_subI m0 .const) (zo (asg m0) pick8 (rN (aK ((wi (y1.1 - 1)), (wu (y1.2 * 2))) () hz1 (lc e3 (lc e8 (lc e0 lN))) Ent.refl))))))))))))))))
  refine cX (tX (tX (bH ?_)))
  obtain rfl := sI hz1
  exact aK (y1.1, y1.2) () rfl (lc e2 (lc e3 lN)) Ent.refl
 subst hy1
 refine q2 (zp (mv m0) (zo (asg m0) pick2 (q4 ?_)))
 obtain rfl := sI hs
 exact et_fn () rfl (.cons e0 .nil) rfl Ent.refl
def r1bit_s (x : Int) (i : Int) : Option (Bool) :=
 if 0 ≤ i then
  if i < 64 then
   (r1power_s i).bind fun r3 =>
   if r3 ≠ 0 then
   some (decide ((Int.tmod (wu (Int.tdiv x r3)) 2) = 1))
   else none
  else
  some false
 else
 some false
theorem r1bit_ok {x : Int} {i : Int} {o : Bool} (hs : r1bit_s x i = some o)   (B : Nat) (W : World)  : Fn_ Tryz.prog 163 #[vu x, vi i] B W [] (X := Unit) (fun x => .bool (o)) (fun x => []) := by
 unfold r1bit_s at hs
 refine fe2 Tryz.func163 19 rfl (fun F => ?_)
 refine q2 (zp (asg .const) (q3 (zp (mv m2) (zp (op_geq m0 .const) (zp (mv m0) (rt_case t0 t0 (fun h1 => ?_) (fun h1 => ?_)))))))
 ·replace hs := ip h1 hs
  refine zw (mv m5).q rfl rfl e0 (zw (op_lss m0 .const).q rfl rfl e1 (zp (op_pick (b := true) m2 m0) (zp (mv m0) (rt_case t0 t0 (fun h2 => ?_) (fun h2 => ?_)))))
  ·replace hs := ip h2 hs
   refine zw (mv m8).q rfl rfl e0 (zw (mv m10).q rfl rfl e1 ?_)
   obtain ⟨r3, hr3, hs⟩ := bO_of hs
   refine zw (cq (.cons m0 .nil) (r1power_ok hr3  _ _) pn) rfl rfl e2 ?_
   obtain ⟨g4, hs⟩ := gO hs
   refine zw (op_quoU m2 m0 g4).q rfl rfl e3 (zw (op_remU m0 .const (by decide)).q rfl rfl e4 (zw (eqL m0 .const).q rfl rfl e5 (zp (op_pick (b := true) m6 m0) (zo (asg m0) pick14 (q4 ?_)))))
   obtain rfl := sI hs
   exact et_fn () rfl (.cons e0 .nil) rfl Ent.refl
  replace hs := im h2 hs
  refine zk rfl rfl e0 (zk rfl rfl e1 (zk rfl rfl e2 (zk rfl rfl e3 (zk rfl rfl e4 (zk rfl rfl e5 (zp (op_pick (b := false) m6 .const) (zo (asg m0) pick14 (q4 ?_))))))))
  obtain rfl := sI hs
  exact et_fn () rfl (.cons e0 .nil) rfl Ent.refl
 replace hs := im h1 hs
 refine zk rfl rfl e0 (zk rfl rfl e1 (zp (op_pick (b := false) m2 .const) (zp (mv m0) (zk rfl rfl e0 (zk rfl rfl e1 (zk rfl rfl e2 (zk rfl rfl e3 (zk rfl rfl e4 (zk rfl rfl e5 (zp (op_pick (b := false) m6 .const) (zo (asg m0) pick14 (q4 ?_))))))))))))
 obtain rfl := sI hs
 exact et_fn () rfl (.cons e0 .nil) rfl Ent.refl
def r1mask_s (i : Int) : Option (Int) :=
 if (i < 0) ∨ (63 < i) then
  some 0
 else
 (r1power_s i).bind fun r3 =>
 some r3
theorem r1mask_ok {i : Int} {o : Int} (hs : r1mask_s i = some o)   (B : Nat) (W : World)  : Fn_ Tryz.prog 122 #[vi i] B W [] (X := Unit) (fun x => vu o) (fun x => []) := by
 unfold r1mask_s at hs
 refine fe1 Tryz.func122 11 rfl (fun F => ?_)
 refine q2 (zp (asg .const) (q1 (cS (cS (ct_cut (X := Unit) (fun _ => True) (fun _ => [(8, .bool (decide ((i < 0) ∨ (63 < i)))), (2, vu 0), (0, vi i)]) (fun _ => [F]) ?_ (fun _ _ => (?_ : CT _ _ _ _ _ _ _ _ _)))))))
 ·refine cR (zp (mv m1) (zp (op_lss m0 .const) (zp (mv m0) (rt_case t0 t0 (fun h1 => ?_) (fun h1 => ?_)))))
  ·exact zk rfl rfl e0 (zk rfl rfl e1 (zp (op_pick (b := true) m2 .const) (rN (et_cut () trivial (.cons e0 (by simp only [eq_true h1, ↓reduceIte, reduceCtorEq, bS]) (lc e6 (lc e7 .nil))) Ent.refl))))
  exact zw (mv m4).q rfl rfl e0 (zw (op_gtr m0 .const).q rfl rfl e1 (zp (op_pick (b := false) m2 m0) (rN (et_cut () trivial (.cons e0 (by simp only [eq_false h1, ↓reduceIte, reduceCtorEq, bS]) (lc e6 (lc e7 .nil))) Ent.refl))))
 refine ci hs m0 (fun h2 hs => ?_) (fun h2 hs => ?_)
 ·refine q2 (zo (asg .const) pick1 (q4 (tR ?_)))
  obtain rfl := sI hs
  exact et_fn () rfl (.cons e0 .nil) rfl Ent.refl
 refine cK (tT (q2 (zp (mv m2) ?_)))
 obtain ⟨r3, hr3, hs⟩ := bO_of hs
 refine zq (cq (.cons m0 .nil) (r1power_ok hr3  _ _) pn) (zo (asg m0) pick3 (q4 ?_))
 obtain rfl := sI hs
 exact et_fn () rfl (.cons e0 .nil) rfl Ent.refl
def r1high_l1 (x : Int) : Nat → Int × Int → Option ((Int) ⊕ (Int × Int))
 | 0, _ => none
 | k + 1, y1 =>
  if 0 ≤ y1.2 then
   (r1bit_s x y1.2).bind fun r2 =>
   if r2 = true then
    some (.inl y1.2)
   else
   r1high_l1 x k (y1.1, (wi (y1.2 - 1)))
  else
  some (.inr (y1.1, y1.2))
def r1high_s (x : Int) : Option (Int) :=
 (r1high_l1 x 65 (0, 63)).bind fun z1z => sK z1z fun z1 =>
 some (-1)
theorem r1high_ok {x : Int} {o : Int} (hs : r1high_s x = some o)   (B : Nat) (W : World)  : Fn_ Tryz.prog 126 #[vu x] B W [] (X := Unit) (fun x => vi o) (fun x => []) := by
 unfold r1high_s at hs
 refine fe1 Tryz.func126 12 rfl (fun F => ?_)
 refine q2 (zp (asg .const) (q1 (cS (q2 (zp (asg .const) (q1 ?_))))))
 obtain ⟨z1z, hz1, hs⟩ := bO_of hs
 refine ct_cutG (S := Int × Int) (G := Unit) (fun z1 => z1z = .inr z1) (fun z1 _ => [(2, vi z1.1)]) (fun z1 _ => [F]) ?_ (fun z1 _ hy1 => (?_ : CT _ _ _ _ _ _ _ _ _))
 ·refine cB (ct_loopK (S := Int × Int) (G := Unit) (fun k y1 => r1high_l1 x k y1 = some z1z) (fun _ h => by rw [r1high_l1] at h; cases h) (fun y1 _ => [(3, vi y1.2), (2, vi y1.1), (0, vu x)]) (fun y1 _ => [F]) 65 (0, 63) () hz1 (lc e0 (lc e1 (lc e2 .nil))) Ent.refl (fun k1 y1 _ hz => ?_))
  clear hz1
  have hz1 := hz; clear hz
  rw [r1high_l1] at hz1
  refine cS (q2 (zp (mv m0) (zp (op_geq m0 .const) (q1 (ci hz1 m0 (fun h1 hz1 => ?_) (fun h1 hz1 => ?_))))))
  ·refine cK (tT (cS (cB (q2 (zp (mv m4) (zp (mv m3) ?_))))))
   obtain ⟨r2, hr2, hz1⟩ := bO_of hz1
   refine zq (cq (.cons m1 (.cons m0 .nil)) (r1bit_ok hr2  _ _) pn) (q1 (cj hz1 m0 (fun h3 hz1 => ?_) (fun h3 hz1 => ?_)))
   ·refine q2 (zp (mv m5) (zo (asg m0) pick7 (q4 (bR (tR (tR (bR (tR ?_))))))))
    obtain rfl := sI hz1
    obtain rfl := sI hs
    exact et_fn () rfl (.cons e0 .nil) rfl Ent.refl
   exact cK (tB (tT (cR (zp (mv m5) (zp (op_subI m0 .const) (zo (asg m0) pick7 (rN (aK (y1.1, (wi (y1.2 - 1))) () hz1 (lc e0 (lc e8 (lc e9 lN))) Ent.refl))))))))
  refine cX (tX (tX (bH ?_)))
  obtain rfl := sI hz1
  exact aK (y1.1, y1.2) () rfl (lc e3 lN) Ent.refl
 replace hs := sK_r hy1 hs
 clear hy1
 refine q2 (zo (asg .const) pick0 (q4 ?_))
 obtain rfl := sI hs
 exact et_fn () rfl (.cons e0 .nil) rfl Ent.refl
def r1nth_l1 (x : Int) : Nat → Int × Int × Int → Option ((Int) ⊕ (Int × Int × Int))
 | 0, _ => none
 | k + 1, y1 =>
  if y1.2.2 < 64 then
   (r1bit_s x y1.2.2).bind fun r2 =>
   if (!r2) = true then
    r1nth_l1 x k (y1.1, y1.2.1, (wi (y1.2.2 + 1)))
   else
   if y1.1 = 0 then
    some (.inl y1.2.2)
   else
   r1nth_l1 x k ((wi (y1.1 - 1)), y1.2.1, (wi (y1.2.2 + 1)))
  else
  some (.inr (y1.1, y1.2.1, y1.2.2))
def r1nth_s (x : Int) (n : Int) : Option (Int) :=
 (r1nth_l1 x 65 (n, 0, 0)).bind fun z1z => sK z1z fun z1 =>
 some (-1)
theorem r1nth_ok {x : Int} {n : Int} {o : Int} (hs : r1nth_s x n = some o)   (B : Nat) (W : World)  : Fn_ Tryz.prog 186 #[vu x, vi n] B W [] (X := Unit) (fun x => vi o) (fun x => []) := by
 unfold r1nth_s at hs
 refine fe2 Tryz.func186 19 rfl (fun F => ?_)
 refine q2 (zp (asg .const) (q1 (cS (q2 (zp (asg .const) (q1 ?_))))))
 obtain ⟨z1z, hz1, hs⟩ := bO_of hs
 refine ct_cutG (S := Int × Int × Int) (G := Unit) (fun z1 => z1z = .inr z1) (fun z1 _ => [(4, vi z1.2.1)]) (fun z1 _ => [F]) ?_ (fun z1 _ hy1 => (?_ : CT _ _ _ _ _ _ _ _ _))
 ·refine cB (ct_loopK (S := Int × Int × Int) (G := Unit) (fun k y1 => r1nth_l1 x k y1 = some z1z) (fun _ h => by rw [r1nth_l1] at h; cases h) (fun y1 _ => [(5, vi y1.2.2), (4, vi y1.2.1), (0, vu x), (1, vi y1.1)]) (fun y1 _ => [F]) 65 (n, 0, 0) () hz1 (lc e0 (lc e1 (lc e2 (lc e3 .nil)))) Ent.refl (fun k1 y1 _ hz => ?_))
  clear hz1
  have hz1 := hz; clear hz
  rw [r1nth_l1] at hz1
  refine cS (q2 (zp (mv m0) (zp (op_lss m0 .const) (q1 (ci hz1 m0 (fun h1 hz1 => ?_) (fun h1 hz1 => ?_))))))
  ·refine cK (tT (cS (cB (cS (q2 (zp (mv m4) (zp (mv m3) ?_)))))))
   obtain ⟨r2, hr2, hz1⟩ := bO_of hz1
   refine zq (cq (.cons m1 (.cons m0 .nil)) (r1bit_ok hr2  _ _) pn) (zp (op_notb m0) (q1 (cj hz1 m0 (fun h3 hz1 => ?_) (fun h3 hz1 => ?_))))
   ·exact cX (tX (bH (tT (cR (zp (mv m6) (zp (aI m0 .const) (zo (asg m0) pick8 (rN (aK (y1.1, y1.2.1, (wi (y1.2.2 + 1))) () hz1 (lc e0 (lc e9 (lc e10 (lc e11 lN)))) Ent.refl)))))))))
   refine cK (tT (cS (q2 (zp (mv m9) (zp (eqL m0 .const) (q1 (ci hz1 m0 (fun h4 hz1 => ?_) (fun h4 hz1 => ?_))))))))
   ·refine q2 (zp (mv m8) (zo (asg m0) pick10 (q4 (tR (bR (tR (tR (bR (tR ?_)))))))))
    obtain rfl := sI hz1
    obtain rfl := sI hs
    exact et_fn () rfl (.cons e0 .nil) rfl Ent.refl
   exact cK (tT (cR (zp (mv m11) (zp (op_subI m0 .const) (zo (asg m0) pick13 (rN (tB (tT (cR (zp (mv m11) (zp (aI m0 .const) (zo (asg m0) pick13 (rN (aK ((wi (y1.1 - 1)), y1.2.1, (wi (y1.2.2 + 1))) () hz1 (lc e0 (lc e14 (lc e15 (lc e3 lN)))) Ent.refl))))))))))))))
  refine cX (tX (tX (bH ?_)))
  obtain rfl := sI hz1
  exact aK (y1.1, y1.2.1, y1.2.2) () rfl (lc e3 lN) Ent.refl
 replace hs := sK_r hy1 hs
 clear hy1
 refine q2 (zo (asg .const) pick0 (q4 ?_))
 obtain rfl := sI hs
 exact et_fn () rfl (.cons e0 .nil) rfl Ent.refl
def r1low_s (x : Int) : Option (Int) :=
 (r1nth_s x 0).bind fun r1 =>
 some r1
theorem r1low_ok {x : Int} {o : Int} (hs : r1low_s x = some o)   (B : Nat) (W : World)  : Fn_ Tryz.prog 175 #[vu x] B W [] (X := Unit) (fun x => vi o) (fun x => []) := by
 unfold r1low_s at hs
 refine fe1 Tryz.func175 5 rfl (fun F => ?_)
 refine q2 (zp (asg .const) (q3 (zp (mv m1) ?_)))
 obtain ⟨r1, hr1, hs⟩ := bO_of hs
 refine zq (cq (.cons m0 (.cons .const .nil)) (r1nth_ok hr1  _ _) pn) (zo (asg m0) pick2 (q4 ?_))
 obtain rfl := sI hs
 exact et_fn () rfl (.cons e0 .nil) rfl Ent.refl
def r1pack_s (deadline : Int) (arrival : Int) (task : Int) : Option (Int × Bool) :=
 if (deadline < 0) ∨ ((16777215 < deadline) ∨ ((arrival < 0) ∨ ((16777215 < arrival) ∨ ((task < 0) ∨ (65535 < task))))) then
  some (0, false)
 else
 (r1power_s 24).bind fun r7 =>
 (r1power_s 16).bind fun r8 =>
 some ((wu ((wu ((wu ((wu ((wu deadline) * r7)) + (wu arrival))) * r8)) + (wu task))), true)
theorem r1pack_ok {deadline : Int} {arrival : Int} {task : Int} {o : Int × Bool} (hs : r1pack_s deadline arrival task = some o)   (B : Nat) (W : World)  : Fn_ Tryz.prog 164 #[vi deadline, vi arrival, vi task] B W [] (X := Unit) (fun x => .tuple #[vu o.1, .bool (o.2)]) (fun x => []) := by
 unfold r1pack_s at hs
 refine fe3 Tryz.func164 42 rfl (fun F => ?_)
 refine q2 (zp (asg .const) (zp (asg .const) (q1 (cS (cS (ct_cut (X := Unit) (fun _ => True) (fun _ => [(29, .bool (decide ((deadline < 0) ∨ ((16777215 < deadline) ∨ ((arrival < 0) ∨ ((16777215 < arrival) ∨ ((task < 0) ∨ (65535 < task)))))))), (7, .bool false), (6, vu 0), (0, vi deadline), (1, vi arrival), (2, vi task)]) (fun _ => [F]) ?_ (fun _ _ => (?_ : CT _ _ _ _ _ _ _ _ _))))))))
 ·refine cR (zp (mv m2) (zp (op_lss m0 .const) (zp (mv m0) (rt_case t0 t0 (fun h1 => ?_) (fun h1 => ?_)))))
  ·exact zk rfl rfl e0 (zk rfl rfl e1 (zp (op_pick (b := true) m2 .const) (zp (mv m0) (zk rfl rfl e0 (zk rfl rfl e1 (zp (op_pick (b := true) m2 .const) (zp (mv m0) (zk rfl rfl e0 (zk rfl rfl e1 (zp (op_pick (b := true) m2 .const) (zp (mv m0) (zk rfl rfl e0 (zk rfl rfl e1 (zp (op_pick (b := true) m2 .const) (zp (mv m0) (zk rfl rfl e0 (zk rfl rfl e1 (zp (op_pick (b := true) m2 .const) (rN (et_cut () trivial (.cons e0 (by simp only [eq_true h1, ↓reduceIte, reduceCtorEq, bS]) (lc (eU e2) (lc (eU e3) (lc (eU e4) (lc (eU e5) (lc (eU e6) .nil)))))) Ent.refl))))))))))))))))))))
  refine zw (mv m5).q rfl rfl e0 (zw (op_gtr m0 .const).q rfl rfl e1 (zp (op_pick (b := false) m2 m0) (zp (mv m0) (rt_case t0 t0 (fun h2 => ?_) (fun h2 => ?_)))))
  ·exact zk rfl rfl e0 (zk rfl rfl e1 (zp (op_pick (b := true) m2 .const) (zp (mv m0) (zk rfl rfl e0 (zk rfl rfl e1 (zp (op_pick (b := true) m2 .const) (zp (mv m0) (zk rfl rfl e0 (zk rfl rfl e1 (zp (op_pick (b := true) m2 .const) (zp (mv m0) (zk rfl rfl e0 (zk rfl rfl e1 (zp (op_pick (b := true) m2 .const) (rN (et_cut () trivial (.cons e0 (by simp only [eq_false h1, eq_true h2, ↓reduceIte, reduceCtorEq, bS]) (lc (eU e2) (lc (eU e3) (lc (eU e4) (lc (eU e5) (lc (eU e6) .nil)))))) Ent.refl))))))))))))))))
  refine zw (mv m10).q rfl rfl e0 (zw (op_lss m0 .const).q rfl rfl e1 (zp (op_pick (b := false) m2 m0) (zp (mv m0) (rt_case t0 t0 (fun h3 => ?_) (fun h3 => ?_)))))
  ·exact zk rfl rfl e0 (zk rfl rfl e1 (zp (op_pick (b := true) m2 .const) (zp (mv m0) (zk rfl rfl e0 (zk rfl rfl e1 (zp (op_pick (b := true) m2 .const) (zp (mv m0) (zk rfl rfl e0 (zk rfl rfl e1 (zp (op_pick (b := true) m2 .const) (rN (et_cut () trivial (.cons e0 (by simp only [eq_false h1, eq_false h2, eq_true h3, ↓reduceIte, reduceCtorEq, bS]) (lc (eU e2) (lc (eU e3) (lc (eU e4) (lc (eU e5) (lc (eU e6) .nil)))))) Ent.refl))))))))))))
  refine zw (mv m14).q rfl rfl e0 (zw (op_gtr m0 .const).q rfl rfl e1 (zp (op_pick (b := false) m2 m0) (zp (mv m0) (rt_case t0 t0 (fun h4 => ?_) (fun h4 => ?_)))))
  ·exact zk rfl rfl e0 (zk rfl rfl e1 (zp (op_pick (b := true) m2 .const) (zp (mv m0) (zk rfl rfl e0 (zk rfl rfl e1 (zp (op_pick (b := true) m2 .const) (rN (et_cut () trivial (.cons e0 (by simp only [eq_false h1, eq_false h2, eq_false h3, eq_true h4, ↓reduceIte, reduceCtorEq, bS]) (lc (eU e2) (lc (eU e3) (lc (eU e4) (lc (eU e5) (lc (eU e6) .nil)))))) Ent.refl))))))))
  refine zw (mv m19).q rfl rfl e0 (zw (op_lss m0 .const).q rfl rfl e1 (zp (op_pick (b := false) m2 m0) (zp (mv m0) (rt_case t0 t0 (fun h5 => ?_) (fun h5 => ?_)))))
  ·exact zk rfl rfl e0 (zk rfl rfl e1 (zp (op_pick (b := true) m2 .const) (rN (et_cut () trivial (.cons e0 (by simp only [eq_false h1, eq_false h2, eq_false h3, eq_false h4, eq_true h5, ↓reduceIte, reduceCtorEq, bS]) (lc (eU e2) (lc (eU e3) (lc (eU e4) (lc (eU e5) (lc (eU e6) .nil)))))) Ent.refl))))
  exact zw (mv (mU m3)).q rfl rfl e0 (zw (op_gtr m0 .const).q rfl rfl e1 (zp (op_pick (b := false) m2 m0) (rN (et_cut () trivial (.cons e0 (by simp only [eq_false h1, eq_false h2, eq_false h3, eq_false h4, eq_false h5, ↓reduceIte, reduceCtorEq, bS]) (lc (eU e2) (lc (eU e3) (lc (eU e4) (lc (eU e5) (lc (eU e6) .nil)))))) Ent.refl))))
 refine ci hs m0 (fun h6 hs => ?_) (fun h6 hs => ?_)
 ·refine q2 (zo (asg .const) pick2 (zo (asg .const) pick2 (q4 (tR ?_))))
  obtain rfl := sI hs
  exact et_fn () rfl (.cons e1 (.cons e0 .nil)) rfl Ent.refl
 refine cK (tT (q2 (zp (mv m3) (zp (op_convU m0 Tryz.underlying3 Tryz.underlying50) ?_))))
 obtain ⟨r7, hr7, hs⟩ := bO_of hs
 refine zq (cq (.cons .const .nil) (r1power_ok hr7  _ _) pn) (zp (op_mulU m1 m0) (zp (mv m8) (zp (op_convU m0 Tryz.underlying3 Tryz.underlying50) (zp (op_addU m2 m0) ?_))))
 obtain ⟨r8, hr8, hs⟩ := bO_of hs
 refine zq (cq (.cons .const .nil) (r1power_ok hr8  _ _) pn) (zp (op_mulU m1 m0) (zp (mv m14) (zp (op_convU m0 Tryz.underlying3 Tryz.underlying50) (zp (op_addU m2 m0) (zo (asg m0) pick14 (zo (asg .const) pick14 (q4 ?_)))))))
 obtain rfl := sI hs
 exact et_fn () rfl (.cons e1 (.cons e0 .nil)) rfl Ent.refl
def r1unpack_s (k : Int) : Option (Int × Int × Int) :=
 (r1power_s 40).bind fun r1 =>
 if r1 ≠ 0 then
 (r1power_s 16).bind fun r3 =>
 if r3 ≠ 0 then
 (r1power_s 24).bind fun r5 =>
 if r5 ≠ 0 then
 (r1power_s 16).bind fun r7 =>
 if r7 ≠ 0 then
 some ((wi (wu (Int.tdiv k r1))), (wi (Int.tmod (wu (Int.tdiv k r3)) r5)), (wi (Int.tmod k r7)))
 else none
 else none
 else none
 else none
theorem r1unpack_ok {k : Int} {o : Int × Int × Int} (hs : r1unpack_s k = some o)   (B : Nat) (W : World)  : Fn_ Tryz.prog 110 #[vu k] B W [] (X := Unit) (fun x => .tuple #[vi o.1, vi o.2.1, vi o.2.2]) (fun x => []) := by
 unfold r1unpack_s at hs
 refine fe1 Tryz.func110 19 rfl (fun F => ?_)
 refine q2 (zp (asg .const) (zp (asg .const) (zp (asg .const) (q1 (cS (ct_draw (by kernel_rfl) (by kernel_rfl) ?_))))))
 refine yp (mv m3) ?_
 obtain ⟨r1, hr1, hs⟩ := bO_of hs
 refine yq (cq (.cons .const .nil) (r1power_ok hr1  _ _) pn) ?_
 obtain ⟨g2, hs⟩ := gO hs
 refine yp (op_quoU m1 m0 g2) (yp (op_convI m0 Tryz.underlying50 Tryz.underlying3) (yp (mv m7) ?_))
 obtain ⟨r3, hr3, hs⟩ := bO_of hs
 refine yq (cq (.cons .const .nil) (r1power_ok hr3  _ _) pn) ?_
 obtain ⟨g4, hs⟩ := gO hs
 refine yp (op_quoU m1 m0 g4) ?_
 obtain ⟨r5, hr5, hs⟩ := bO_of hs
 refine yq (cq (.cons .const .nil) (r1power_ok hr5  _ _) pn) ?_
 obtain ⟨g6, hs⟩ := gO hs
 refine yp (op_remU m1 m0 g6) (yp (op_convI m0 Tryz.underlying50 Tryz.underlying3) (yp (mv m13) ?_))
 obtain ⟨r7, hr7, hs⟩ := bO_of hs
 refine yq (cq (.cons .const .nil) (r1power_ok hr7  _ _) pn) ?_
 obtain ⟨g8, hs⟩ := gO hs
 refine yp (op_remU m1 m0 g8) (yp (op_convI m0 Tryz.underlying50 Tryz.underlying3) (qt_q (asg m10).q wants_none (put_over pick16 (by kernel_rfl)) ?_))
 refine qt_q (asg m5).q wants_none (put_over pick16 (by kernel_rfl)) ?_
 refine qt_q (asg m2).q wants_none (put_over pick16 (by kernel_rfl)) ?_
 refine qN (tT (cQ ?_))
 obtain rfl := sI hs
 exact et_fn () rfl (.cons e2 (.cons e1 (.cons e0 .nil))) rfl Ent.refl
end
end Go.Proofs.YtpbkelpokpglaaaGreat
