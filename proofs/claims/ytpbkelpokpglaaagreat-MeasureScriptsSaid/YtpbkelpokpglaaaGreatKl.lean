/- The reference, function by function: places of cells. The reference, function by function: the memory. -/
import Derived.Test.YtpbkelpokpglaaaGreatKj
import Derived.Test.YtpbkelpokpglaaaGreatKk
import Derived.Test.YtpbkelpokpglaaaGreatRows
set_option linter.all false
namespace Go.Proofs.YtpbkelpokpglaaaGreat
section
open Go Go.RowKit
set_option maxRecDepth 100000
set_option maxHeartbeats 2000000
variable {c : Cfg} {m : MemV} {now draw : Int} {recs : List RecV} {evs : List Ev} {f : FrV}
def r6index_s (first : Int) (i : Int) (n : Int) (size : Int) : Int :=
 if (i < 0) ∨ (n ≤ i) then
  (-1)
 else
 (wi (first + (wi (i * size))))
theorem r6index_ok {first : Int} {i : Int} {n : Int} {size : Int} {o : Int} (hs : r6index_s first i n size = o)   (B : Nat) (W : World)  : Fn_ Tryz.prog 103 #[vi first, vi i, vi n, vi size] B W [] (X := Unit) (fun x => vi o) (fun x => []) := by
 unfold r6index_s at hs
 refine fe4 Tryz.func103 21 rfl (fun F => ?_)
 refine q2 (zp (asg .const) (q1 (cS (cS (ct_cut (X := Unit) (fun _ => True) (fun _ => [(15, .bool (decide ((i < 0) ∨ (n ≤ i)))), (8, zi), (0, vi first), (1, vi i), (3, vi size)]) (fun _ => [F]) ?_ (fun _ _ => (?_ : CT _ _ _ _ _ _ _ _ _)))))))
 ·refine cR (zp (mv m2) (zp (op_lss m0 .const) (zp (mv m0) (rt_case t0 t0 (fun h1 => ?_) (fun h1 => ?_)))))
  ·exact zk rfl rfl e0 (zk rfl rfl e1 (zk rfl rfl e2 (zp (op_pick (b := true) m3 .const) (rN (et_cut () trivial (.cons e0 (by simp only [eq_true h1, ↓reduceIte, reduceCtorEq, bS]) (lc e7 (lc e8 (lc e9 (lc e11 .nil))))) Ent.refl)))))
  exact zw (mv m5).q rfl rfl e0 (zw (mv m7).q rfl rfl e1 (zw (op_geq m1 m0).q rfl rfl e2 (zp (op_pick (b := false) m3 m0) (rN (et_cut () trivial (.cons e0 (by simp only [eq_false h1, ↓reduceIte, reduceCtorEq, bS]) (lc e7 (lc e8 (lc e9 (lc e11 .nil))))) Ent.refl)))))
 refine ci hs m0 (fun h2 hs => ?_) (fun h2 hs => ?_)
 ·refine q2 (zo (asg .const) pick1 (q4 (tR ?_)))
  subst hs
  exact et_fn () rfl (.cons e0 .nil) rfl Ent.refl
 refine cK (tT (q2 (zp (mv m2) (zp (mv m4) (zp (mv m6) (zp (op_mulI m1 m0) (zp (aI m3 m0) (zo (asg m0) pick6 (q4 ?_)))))))))
 subst hs
 exact et_fn () rfl (.cons e0 .nil) rfl Ent.refl
def r6deques_s (c : Cfg) : Int :=
 (wi ((wi ((wi (4 + c.heap)) + c.classes)) + (wi (2 * c.workers))))
theorem r6deques_ok {o : Int} (hs : r6deques_s c = o) (l : CfgAt)  (B : Nat) (W : World)  : Fn_ Tryz.prog 85 #[.agg #[vi c.workers, vi c.levels, vi c.classes, vi c.tasks, vi c.deque, vi c.heap, vi c.batch, vi c.age, vi c.patience, .slice l.pa c.progs.length l.pc, .slice l.sa c.subs.length l.sc]] B W [] (X := Unit) (fun x => vi o) (fun x => []) := by
 unfold r6deques_s at hs
 refine fe1 Tryz.func85 13 rfl (fun F => ?_)
 refine q2 (rn (ot_box m0 (us := [vi c.workers, vi c.levels, vi c.classes, vi c.tasks, vi c.deque, vi c.heap, vi c.batch, vi c.age, vi c.patience, .slice l.pa c.progs.length l.pc, .slice l.sa c.subs.length l.sc]) rfl) ?_)
 rintro b1
 refine zp (asg .const) (q3 (zp (fd 5 5 m1) (zq (ld 0 5 m0 e0 rfl) (zp (aI .const m0) (zp (fd 2 2 m4) (zq (ld 0 2 m0 e0 rfl) (zp (aI m2 m0) (zp (fd 0 0 m7) (zq (ld 0 0 m0 e0 rfl) (zp (op_mulI .const m0) (zp (aI m3 m0) (zo (asg m0) pick10 (q4 ?_)))))))))))))
 subst hs
 exact et_fn () rfl (.cons e0 .nil) rfl (d1 Ent.refl)
def r6task_s (c : Cfg) (t : Int) (k : Int) : Int :=
 if (r6index_s (wi ((r6deques_s c) + (wi ((wi (c.workers * c.levels)) * (wi (2 + c.deque)))))) t c.tasks 5) < 0 then
  (-1)
 else
 (wi ((r6index_s (wi ((r6deques_s c) + (wi ((wi (c.workers * c.levels)) * (wi (2 + c.deque)))))) t c.tasks 5) + k))
theorem r6task_ok {t : Int} {k : Int} {o : Int} (hs : r6task_s c t k = o) (l : CfgAt)  (B : Nat) (W : World)  : Fn_ Tryz.prog 80 #[.agg #[vi c.workers, vi c.levels, vi c.classes, vi c.tasks, vi c.deque, vi c.heap, vi c.batch, vi c.age, vi c.patience, .slice l.pa c.progs.length l.pc, .slice l.sa c.subs.length l.sc], vi t, vi k] B W [] (X := Unit) (fun x => vi o) (fun x => []) := by
 unfold r6task_s at hs
 refine fe3 Tryz.func80 29 rfl (fun F => ?_)
 refine q2 (rn (ot_box m0 (us := [vi c.workers, vi c.levels, vi c.classes, vi c.tasks, vi c.deque, vi c.heap, vi c.batch, vi c.age, vi c.patience, .slice l.pa c.progs.length l.pc, .slice l.sa c.subs.length l.sc]) rfl) ?_)
 rintro b1
 refine zp (asg .const) (q1 (cS (ct_draw (by kernel_rfl) (by kernel_rfl) ?_)))
 refine yq (lda 0 m1 e0) (yq (cq (.cons m0 .nil) (r6deques_ok (o := r6deques_s c) rfl l _ _) pn) (yp (fd 0 0 m3) (yq (ld 0 0 m0 e0 rfl) (yp (fd 1 1 m5) (yq (ld 0 1 m0 e0 rfl) (yp (op_mulI m2 m0) (yp (fd 4 4 m8) (yq (ld 0 4 m0 e0 rfl) (yp (aI .const m0) (yp (op_mulI m3 m0) (yp (aI m9 m0) (yp (mv m15) (yp (fd 3 3 m14) (yq (ld 0 3 m0 e0 rfl) (yq (cq (.cons m3 (.cons m2 (.cons m0 (.cons .const .nil)))) (r6index_ok (o := r6index_s (wi ((r6deques_s c) + (wi ((wi (c.workers * c.levels)) * (wi (2 + c.deque)))))) t c.tasks 5) rfl  _ _) pn) (yp (asg m0) (qN (tT (cS (q2 (zp (mv m0) (zp (op_lss m0 .const) (q1 (ci hs m0 (fun h2 hs => ?_) (fun h2 hs => ?_)))))))))))))))))))))))))
 ·refine q2 (zo (asg .const) pick19 (q4 (tR ?_)))
  subst hs
  exact et_fn () rfl (.cons e0 .nil) rfl (d1 Ent.refl)
 refine cK (tT (q2 (zp (mv m2) (zp (mv (mU m4)) (zp (aI m1 m0) (zo (asg m0) (pickU pick2) (q4 ?_)))))))
 subst hs
 exact et_fn () rfl (.cons e0 .nil) rfl (d1 Ent.refl)
def r6state_s (c : Cfg) (t : Int) : Int :=
 (r6task_s c t 0)
theorem r6state_ok {t : Int} {o : Int} (hs : r6state_s c t = o) (l : CfgAt)  (B : Nat) (W : World)  : Fn_ Tryz.prog 50 #[.agg #[vi c.workers, vi c.levels, vi c.classes, vi c.tasks, vi c.deque, vi c.heap, vi c.batch, vi c.age, vi c.patience, .slice l.pa c.progs.length l.pc, .slice l.sa c.subs.length l.sc], vi t] B W [] (X := Unit) (fun x => vi o) (fun x => []) := by
 unfold r6state_s at hs
 refine fe2 Tryz.func50 8 rfl (fun F => ?_)
 refine q2 (rn (ot_box m0 (us := [vi c.workers, vi c.levels, vi c.classes, vi c.tasks, vi c.deque, vi c.heap, vi c.batch, vi c.age, vi c.patience, .slice l.pa c.progs.length l.pc, .slice l.sa c.subs.length l.sc]) rfl) ?_)
 rintro b1
 refine zp (asg .const) (q3 (zq (lda 0 m1 e0) (zp (mv m4) (zq (cq (.cons m1 (.cons m0 (.cons .const .nil))) (r6task_ok (o := r6task_s c t 0) rfl l _ _) pn) (zo (asg m0) pick3 (q4 ?_))))))
 subst hs
 exact et_fn () rfl (.cons e0 .nil) rfl (d1 Ent.refl)
def r6level_s (c : Cfg) (t : Int) : Int :=
 (r6task_s c t 1)
theorem r6level_ok {t : Int} {o : Int} (hs : r6level_s c t = o) (l : CfgAt)  (B : Nat) (W : World)  : Fn_ Tryz.prog 111 #[.agg #[vi c.workers, vi c.levels, vi c.classes, vi c.tasks, vi c.deque, vi c.heap, vi c.batch, vi c.age, vi c.patience, .slice l.pa c.progs.length l.pc, .slice l.sa c.subs.length l.sc], vi t] B W [] (X := Unit) (fun x => vi o) (fun x => []) := by
 unfold r6level_s at hs
 refine fe2 Tryz.func111 8 rfl (fun F => ?_)
 refine q2 (rn (ot_box m0 (us := [vi c.workers, vi c.levels, vi c.classes, vi c.tasks, vi c.deque, vi c.heap, vi c.batch, vi c.age, vi c.patience, .slice l.pa c.progs.length l.pc, .slice l.sa c.subs.length l.sc]) rfl) ?_)
 rintro b1
 refine zp (asg .const) (q3 (zq (lda 0 m1 e0) (zp (mv m4) (zq (cq (.cons m1 (.cons m0 (.cons .const .nil))) (r6task_ok (o := r6task_s c t 1) rfl l _ _) pn) (zo (asg m0) pick3 (q4 ?_))))))
 subst hs
 exact et_fn () rfl (.cons e0 .nil) rfl (d1 Ent.refl)
def r6join_s (c : Cfg) (t : Int) : Int :=
 (r6task_s c t 2)
theorem r6join_ok {t : Int} {o : Int} (hs : r6join_s c t = o) (l : CfgAt)  (B : Nat) (W : World)  : Fn_ Tryz.prog 178 #[.agg #[vi c.workers, vi c.levels, vi c.classes, vi c.tasks, vi c.deque, vi c.heap, vi c.batch, vi c.age, vi c.patience, .slice l.pa c.progs.length l.pc, .slice l.sa c.subs.length l.sc], vi t] B W [] (X := Unit) (fun x => vi o) (fun x => []) := by
 unfold r6join_s at hs
 refine fe2 Tryz.func178 8 rfl (fun F => ?_)
 refine q2 (rn (ot_box m0 (us := [vi c.workers, vi c.levels, vi c.classes, vi c.tasks, vi c.deque, vi c.heap, vi c.batch, vi c.age, vi c.patience, .slice l.pa c.progs.length l.pc, .slice l.sa c.subs.length l.sc]) rfl) ?_)
 rintro b1
 refine zp (asg .const) (q3 (zq (lda 0 m1 e0) (zp (mv m4) (zq (cq (.cons m1 (.cons m0 (.cons .const .nil))) (r6task_ok (o := r6task_s c t 2) rfl l _ _) pn) (zo (asg m0) pick3 (q4 ?_))))))
 subst hs
 exact et_fn () rfl (.cons e0 .nil) rfl (d1 Ent.refl)
def r6waits_s (c : Cfg) (t : Int) : Int :=
 (r6task_s c t 3)
theorem r6waits_ok {t : Int} {o : Int} (hs : r6waits_s c t = o) (l : CfgAt)  (B : Nat) (W : World)  : Fn_ Tryz.prog 171 #[.agg #[vi c.workers, vi c.levels, vi c.classes, vi c.tasks, vi c.deque, vi c.heap, vi c.batch, vi c.age, vi c.patience, .slice l.pa c.progs.length l.pc, .slice l.sa c.subs.length l.sc], vi t] B W [] (X := Unit) (fun x => vi o) (fun x => []) := by
 unfold r6waits_s at hs
 refine fe2 Tryz.func171 8 rfl (fun F => ?_)
 refine q2 (rn (ot_box m0 (us := [vi c.workers, vi c.levels, vi c.classes, vi c.tasks, vi c.deque, vi c.heap, vi c.batch, vi c.age, vi c.patience, .slice l.pa c.progs.length l.pc, .slice l.sa c.subs.length l.sc]) rfl) ?_)
 rintro b1
 refine zp (asg .const) (q3 (zq (lda 0 m1 e0) (zp (mv m4) (zq (cq (.cons m1 (.cons m0 (.cons .const .nil))) (r6task_ok (o := r6task_s c t 3) rfl l _ _) pn) (zo (asg m0) pick3 (q4 ?_))))))
 subst hs
 exact et_fn () rfl (.cons e0 .nil) rfl (d1 Ent.refl)
def r6since_s (c : Cfg) (t : Int) : Int :=
 (r6task_s c t 4)
theorem r6since_ok {t : Int} {o : Int} (hs : r6since_s c t = o) (l : CfgAt)  (B : Nat) (W : World)  : Fn_ Tryz.prog 170 #[.agg #[vi c.workers, vi c.levels, vi c.classes, vi c.tasks, vi c.deque, vi c.heap, vi c.batch, vi c.age, vi c.patience, .slice l.pa c.progs.length l.pc, .slice l.sa c.subs.length l.sc], vi t] B W [] (X := Unit) (fun x => vi o) (fun x => []) := by
 unfold r6since_s at hs
 refine fe2 Tryz.func170 8 rfl (fun F => ?_)
 refine q2 (rn (ot_box m0 (us := [vi c.workers, vi c.levels, vi c.classes, vi c.tasks, vi c.deque, vi c.heap, vi c.batch, vi c.age, vi c.patience, .slice l.pa c.progs.length l.pc, .slice l.sa c.subs.length l.sc]) rfl) ?_)
 rintro b1
 refine zp (asg .const) (q3 (zq (lda 0 m1 e0) (zp (mv m4) (zq (cq (.cons m1 (.cons m0 (.cons .const .nil))) (r6task_ok (o := r6task_s c t 4) rfl l _ _) pn) (zo (asg m0) pick3 (q4 ?_))))))
 subst hs
 exact et_fn () rfl (.cons e0 .nil) rfl (d1 Ent.refl)
def r6slot_s (c : Cfg) (i : Int) : Int :=
 (r6index_s 4 i c.heap 1)
theorem r6slot_ok {i : Int} {o : Int} (hs : r6slot_s c i = o) (l : CfgAt)  (B : Nat) (W : World)  : Fn_ Tryz.prog 108 #[.agg #[vi c.workers, vi c.levels, vi c.classes, vi c.tasks, vi c.deque, vi c.heap, vi c.batch, vi c.age, vi c.patience, .slice l.pa c.progs.length l.pc, .slice l.sa c.subs.length l.sc], vi i] B W [] (X := Unit) (fun x => vi o) (fun x => []) := by
 unfold r6slot_s at hs
 refine fe2 Tryz.func108 9 rfl (fun F => ?_)
 refine q2 (rn (ot_box m0 (us := [vi c.workers, vi c.levels, vi c.classes, vi c.tasks, vi c.deque, vi c.heap, vi c.batch, vi c.age, vi c.patience, .slice l.pa c.progs.length l.pc, .slice l.sa c.subs.length l.sc]) rfl) ?_)
 rintro b1
 refine zp (asg .const) (q3 (zp (mv m3) (zp (fd 5 5 m2) (zq (ld 0 5 m0 e0 rfl) (zq (cq (.cons .const (.cons m2 (.cons m0 (.cons .const .nil)))) (r6index_ok (o := r6index_s 4 i c.heap 1) rfl  _ _) pn) (zo (asg m0) pick4 (q4 ?_)))))))
 subst hs
 exact et_fn () rfl (.cons e0 .nil) rfl (d1 Ent.refl)
def r6sleepers_s (c : Cfg) (k : Int) : Int :=
 (r6index_s (wi (4 + c.heap)) k c.classes 1)
theorem r6sleepers_ok {k : Int} {o : Int} (hs : r6sleepers_s c k = o) (l : CfgAt)  (B : Nat) (W : World)  : Fn_ Tryz.prog 172 #[.agg #[vi c.workers, vi c.levels, vi c.classes, vi c.tasks, vi c.deque, vi c.heap, vi c.batch, vi c.age, vi c.patience, .slice l.pa c.progs.length l.pc, .slice l.sa c.subs.length l.sc], vi k] B W [] (X := Unit) (fun x => vi o) (fun x => []) := by
 unfold r6sleepers_s at hs
 refine fe2 Tryz.func172 12 rfl (fun F => ?_)
 refine q2 (rn (ot_box m0 (us := [vi c.workers, vi c.levels, vi c.classes, vi c.tasks, vi c.deque, vi c.heap, vi c.batch, vi c.age, vi c.patience, .slice l.pa c.progs.length l.pc, .slice l.sa c.subs.length l.sc]) rfl) ?_)
 rintro b1
 refine zp (asg .const) (q3 (zp (fd 5 5 m1) (zq (ld 0 5 m0 e0 rfl) (zp (aI .const m0) (zp (mv m6) (zp (fd 2 2 m5) (zq (ld 0 2 m0 e0 rfl) (zq (cq (.cons m3 (.cons m2 (.cons m0 (.cons .const .nil)))) (r6index_ok (o := r6index_s (wi (4 + c.heap)) k c.classes 1) rfl  _ _) pn) (zo (asg m0) pick7 (q4 ?_))))))))))
 subst hs
 exact et_fn () rfl (.cons e0 .nil) rfl (d1 Ent.refl)
def r6epoch_s (c : Cfg) (w : Int) : Int :=
 (r6index_s (wi ((wi (4 + c.heap)) + c.classes)) w c.workers 1)
theorem r6epoch_ok {w : Int} {o : Int} (hs : r6epoch_s c w = o) (l : CfgAt)  (B : Nat) (W : World)  : Fn_ Tryz.prog 173 #[.agg #[vi c.workers, vi c.levels, vi c.classes, vi c.tasks, vi c.deque, vi c.heap, vi c.batch, vi c.age, vi c.patience, .slice l.pa c.progs.length l.pc, .slice l.sa c.subs.length l.sc], vi w] B W [] (X := Unit) (fun x => vi o) (fun x => []) := by
 unfold r6epoch_s at hs
 refine fe2 Tryz.func173 15 rfl (fun F => ?_)
 refine q2 (rn (ot_box m0 (us := [vi c.workers, vi c.levels, vi c.classes, vi c.tasks, vi c.deque, vi c.heap, vi c.batch, vi c.age, vi c.patience, .slice l.pa c.progs.length l.pc, .slice l.sa c.subs.length l.sc]) rfl) ?_)
 rintro b1
 refine zp (asg .const) (q3 (zp (fd 5 5 m1) (zq (ld 0 5 m0 e0 rfl) (zp (aI .const m0) (zp (fd 2 2 m4) (zq (ld 0 2 m0 e0 rfl) (zp (aI m2 m0) (zp (mv m9) (zp (fd 0 0 m8) (zq (ld 0 0 m0 e0 rfl) (zq (cq (.cons m3 (.cons m2 (.cons m0 (.cons .const .nil)))) (r6index_ok (o := r6index_s (wi ((wi (4 + c.heap)) + c.classes)) w c.workers 1) rfl  _ _) pn) (zo (asg m0) pick10 (q4 ?_)))))))))))))
 subst hs
 exact et_fn () rfl (.cons e0 .nil) rfl (d1 Ent.refl)
def r6bitmap_s (c : Cfg) (w : Int) : Int :=
 (r6index_s (wi ((wi ((wi (4 + c.heap)) + c.classes)) + c.workers)) w c.workers 1)
theorem r6bitmap_ok {w : Int} {o : Int} (hs : r6bitmap_s c w = o) (l : CfgAt)  (B : Nat) (W : World)  : Fn_ Tryz.prog 112 #[.agg #[vi c.workers, vi c.levels, vi c.classes, vi c.tasks, vi c.deque, vi c.heap, vi c.batch, vi c.age, vi c.patience, .slice l.pa c.progs.length l.pc, .slice l.sa c.subs.length l.sc], vi w] B W [] (X := Unit) (fun x => vi o) (fun x => []) := by
 unfold r6bitmap_s at hs
 refine fe2 Tryz.func112 18 rfl (fun F => ?_)
 refine q2 (rn (ot_box m0 (us := [vi c.workers, vi c.levels, vi c.classes, vi c.tasks, vi c.deque, vi c.heap, vi c.batch, vi c.age, vi c.patience, .slice l.pa c.progs.length l.pc, .slice l.sa c.subs.length l.sc]) rfl) ?_)
 rintro b1
 refine zp (asg .const) (q3 (zp (fd 5 5 m1) (zq (ld 0 5 m0 e0 rfl) (zp (aI .const m0) (zp (fd 2 2 m4) (zq (ld 0 2 m0 e0 rfl) (zp (aI m2 m0) (zp (fd 0 0 m7) (zq (ld 0 0 m0 e0 rfl) (zp (aI m2 m0) (zp (mv m12) (zp (fd 0 0 m11) (zq (ld 0 0 m0 e0 rfl) (zq (cq (.cons m3 (.cons m2 (.cons m0 (.cons .const .nil)))) (r6index_ok (o := r6index_s (wi ((wi ((wi (4 + c.heap)) + c.classes)) + c.workers)) w c.workers 1) rfl  _ _) pn) (zo (asg m0) pick13 (q4 ?_))))))))))))))))
 subst hs
 exact et_fn () rfl (.cons e0 .nil) rfl (d1 Ent.refl)
def r6queue_s (c : Cfg) (w : Int) (l_ : Int) : QV :=
 if (w < 0) ∨ ((c.workers ≤ w) ∨ ((l_ < 0) ∨ (c.levels ≤ l_))) then
  (⟨(-1), (-1), (-1), 0⟩ : QV)
 else
 (⟨(wi ((r6deques_s c) + (wi ((wi ((wi (w * c.levels)) + l_)) * (wi (2 + c.deque)))))), (wi ((wi ((r6deques_s c) + (wi ((wi ((wi (w * c.levels)) + l_)) * (wi (2 + c.deque)))))) + 1)), (wi ((wi ((r6deques_s c) + (wi ((wi ((wi (w * c.levels)) + l_)) * (wi (2 + c.deque)))))) + 2)), c.deque⟩ : QV)
theorem r6queue_ok {w : Int} {l_ : Int} {o : QV} (hs : r6queue_s c w l_ = o) (l : CfgAt)  (B : Nat) (W : World)  : Fn_ Tryz.prog 73 #[.agg #[vi c.workers, vi c.levels, vi c.classes, vi c.tasks, vi c.deque, vi c.heap, vi c.batch, vi c.age, vi c.patience, .slice l.pa c.progs.length l.pc, .slice l.sa c.subs.length l.sc], vi w, vi l_] B W [] (X := Unit) (fun x => .agg #[vi o.top, vi o.bottom, vi o.ring, vi o.cap]) (fun x => []) := by
 unfold r6queue_s at hs
 refine fe3 Tryz.func73 48 rfl (fun F => ?_)
 refine q2 (rn (ot_box m0 (us := [vi c.workers, vi c.levels, vi c.classes, vi c.tasks, vi c.deque, vi c.heap, vi c.batch, vi c.age, vi c.patience, .slice l.pa c.progs.length l.pc, .slice l.sa c.subs.length l.sc]) rfl) ?_)
 rintro b1
 refine rn (al [zi, zi, zi, zi]) ?_
 rintro b2
 refine q1 (cS (cS (ct_cut (X := Unit) (fun _ => True) (fun _ => [(25, .bool (decide ((w < 0) ∨ ((c.workers ≤ w) ∨ ((l_ < 0) ∨ (c.levels ≤ l_)))))), (6, vp b2 0), (3, vp b1 0), (1, vi w), (2, vi l_)]) (fun _ => pts b2 0 [zi, zi, zi, zi] :: cP b1 c l :: [F]) ?_ (fun _ _ => (?_ : CT _ _ _ _ _ _ _ _ _)))))
 ·refine cR (zp (mv m3) (zp (op_lss m0 .const) (zp (mv m0) (rt_case t0 t0 (fun h3 => ?_) (fun h3 => ?_)))))
  ·exact zk rfl rfl e0 (zk rfl rfl e1 (zk rfl rfl e2 (zk rfl rfl e3 (zp (op_pick (b := true) m4 .const) (zp (mv m0) (zk rfl rfl e0 (zk rfl rfl e1 (zp (op_pick (b := true) m2 .const) (zp (mv m0) (zk rfl rfl e0 (zk rfl rfl e1 (zk rfl rfl e2 (zk rfl rfl e3 (zp (op_pick (b := true) m4 .const) (rN (et_cut () trivial (.cons e0 (by simp only [eq_true h3, ↓reduceIte, reduceCtorEq, bS]) (lc e18 (lc e19 (lc (eU e1) (lc (eU e2) .nil))))) Ent.refl))))))))))))))))
  refine zw (mv m6).q rfl rfl e0 (zw (fd 0 0 m5).q rfl rfl e1 (zw (ld 0 0 m0 e1 rfl) rfl rfl e2 (zw (op_geq m2 m0).q rfl rfl e3 (zp (op_pick (b := false) m4 m0) (zp (mv m0) (rt_case t0 t0 (fun h4 => ?_) (fun h4 => ?_)))))))
  ·exact zk rfl rfl e0 (zk rfl rfl e1 (zp (op_pick (b := true) m2 .const) (zp (mv m0) (zk rfl rfl e0 (zk rfl rfl e1 (zk rfl rfl e2 (zk rfl rfl e3 (zp (op_pick (b := true) m4 .const) (rN (et_cut () trivial (.cons e0 (by simp only [eq_false h3, eq_true h4, ↓reduceIte, reduceCtorEq, bS]) (lc e18 (lc e19 (lc (eU e1) (lc (eU e2) .nil))))) Ent.refl))))))))))
  refine zw (mv m13).q rfl rfl e0 (zw (op_lss m0 .const).q rfl rfl e1 (zp (op_pick (b := false) m2 m0) (zp (mv m0) (rt_case t0 t0 (fun h5 => ?_) (fun h5 => ?_)))))
  ·exact zk rfl rfl e0 (zk rfl rfl e1 (zk rfl rfl e2 (zk rfl rfl e3 (zp (op_pick (b := true) m4 .const) (rN (et_cut () trivial (.cons e0 (by simp only [eq_false h3, eq_false h4, eq_true h5, ↓reduceIte, reduceCtorEq, bS]) (lc e18 (lc e19 (lc (eU e1) (lc (eU e2) .nil))))) Ent.refl))))))
  exact zw (mv m17).q rfl rfl e0 (zw (fd 1 1 m15).q rfl rfl e1 (zw (ld 0 1 m0 e1 rfl) rfl rfl e2 (zw (op_geq m2 m0).q rfl rfl e3 (zp (op_pick (b := false) m4 m0) (rN (et_cut () trivial (.cons e0 (by simp only [eq_false h3, eq_false h4, eq_false h5, ↓reduceIte, reduceCtorEq, bS]) (lc e18 (lc e19 (lc (eU e1) (lc (eU e2) .nil))))) Ent.refl))))))
 refine ci hs m0 (fun h6 hs => ?_) (fun h6 hs => ?_)
 ·refine q2 (zp (op_build (v := .agg #[vi ((-1)), vi ((-1)), vi ((-1)), zi]) (.cons .const (.cons .const (.cons .const .nil))) (fun _ => by kernel_rfl)) (rz (sta 0 m2 m0 t0) (q4 (tR ?_))))
  subst hs
  exact fa e2 e0 (d2 Ent.refl)
 refine cK (tT (cS (ct_draw (by kernel_rfl) (by kernel_rfl) ?_)))
 refine yq (lda 0 m2 e1) (yq (cq (.cons m0 .nil) (r6deques_ok (o := r6deques_s c) rfl l _ _) pn) (yp (mv m5) (yp (fd 1 1 m5) (yq (ld 0 1 m0 e1 rfl) (yp (op_mulI m2 m0) (yp (mv m10) (yp (aI m1 m0) (yp (fd 4 4 m10) (yq (ld 0 4 m0 e1 rfl) (yp (aI .const m0) (yp (op_mulI m3 m0) (yp (aI m10 m0) (yp (asg m0) (qN (tT (q2 (zp (mv m0) (zp (mv m1) (zp (aI m0 .const) (zp (mv m3) (zp (aI m0 .const) (zp (fd 4 4 (mU m1)) (zq (ld 0 4 m0 e1 rfl) (zp (op_build (v := .agg #[vi ((wi ((r6deques_s c) + (wi ((wi ((wi (w * c.levels)) + l_)) * (wi (2 + c.deque))))))), vi ((wi ((wi ((r6deques_s c) + (wi ((wi ((wi (w * c.levels)) + l_)) * (wi (2 + c.deque)))))) + 1))), vi ((wi ((wi ((r6deques_s c) + (wi ((wi ((wi (w * c.levels)) + l_)) * (wi (2 + c.deque)))))) + 2))), vi c.deque]) (.cons m6 (.cons m4 (.cons m2 (.cons m0 .nil)))) (fun _ => by kernel_rfl)) (rz (sta 0 (mU m3) m0 t0) (q4 ?_))))))))))))))))))))))))))
 subst hs
 exact fa (eU e3) e0 (d2 Ent.refl)
def r6cells_s (c : Cfg) : Int :=
 (wi ((wi ((r6deques_s c) + (wi ((wi (c.workers * c.levels)) * (wi (2 + c.deque)))))) + (wi (5 * c.tasks))))
theorem r6cells_ok {o : Int} (hs : r6cells_s c = o) (l : CfgAt)  (B : Nat) (W : World)  : Fn_ Tryz.prog 56 #[.agg #[vi c.workers, vi c.levels, vi c.classes, vi c.tasks, vi c.deque, vi c.heap, vi c.batch, vi c.age, vi c.patience, .slice l.pa c.progs.length l.pc, .slice l.sa c.subs.length l.sc]] B W [] (X := Unit) (fun x => vi o) (fun x => []) := by
 unfold r6cells_s at hs
 refine fe1 Tryz.func56 19 rfl (fun F => ?_)
 refine q2 (rn (ot_box m0 (us := [vi c.workers, vi c.levels, vi c.classes, vi c.tasks, vi c.deque, vi c.heap, vi c.batch, vi c.age, vi c.patience, .slice l.pa c.progs.length l.pc, .slice l.sa c.subs.length l.sc]) rfl) ?_)
 rintro b1
 refine zp (asg .const) (q1 (cS (ct_draw (by kernel_rfl) (by kernel_rfl) ?_)))
 refine yq (lda 0 m1 e0) (yq (cq (.cons m0 .nil) (r6deques_ok (o := r6deques_s c) rfl l _ _) pn) (yp (fd 0 0 m3) (yq (ld 0 0 m0 e0 rfl) (yp (fd 1 1 m5) (yq (ld 0 1 m0 e0 rfl) (yp (op_mulI m2 m0) (yp (fd 4 4 m8) (yq (ld 0 4 m0 e0 rfl) (yp (aI .const m0) (yp (op_mulI m3 m0) (yp (aI m9 m0) (yp (fd 3 3 m13) (yq (ld 0 3 m0 e0 rfl) (yp (op_mulI .const m0) (yp (aI m3 m0) (qt_q (asg m0).q wants_none (put_over pick16 (by kernel_rfl)) ?_))))))))))))))))
 refine qN (tT (cQ ?_))
 subst hs
 exact et_fn () rfl (.cons e0 .nil) rfl (d1 Ent.refl)
def r8end_s (code : Int) (value : Int) : ResV :=
 (⟨true, code, value⟩ : ResV)
theorem r8end_ok {code : Int} {value : Int} {o : ResV} (hs : r8end_s code value = o)   (B : Nat) (W : World)  : Fn_ Tryz.prog 123 #[vi code, vi value] B W [] (X := Unit) (fun x => .agg #[.bool (o.done), vi o.code, vi o.value]) (fun x => []) := by
 unfold r8end_s at hs
 refine fe2 Tryz.func123 8 rfl (fun F => ?_)
 refine q2 (rn (al [.bool false, zi, zi]) ?_)
 rintro b1
 refine q3 (zp (mv m1) (zp (mv m3) (zp (op_build (v := .agg #[.bool true, vi code, vi value]) (.cons .const (.cons m1 (.cons m0 .nil))) (fun _ => by kernel_rfl)) (rz (sta 0 m3 m0 t0) (q4 ?_)))))
 subst hs
 exact fa e3 e0 (d1 Ent.refl)
def r8size_s (b : Int) (t : Int) : Int :=
 (wi (wu (b - t)))
theorem r8size_ok {b : Int} {t : Int} {o : Int} (hs : r8size_s b t = o)   (B : Nat) (W : World)  : Fn_ Tryz.prog 74 #[vu b, vu t] B W [] (X := Unit) (fun x => vi o) (fun x => []) := by
 unfold r8size_s at hs
 refine fe2 Tryz.func74 9 rfl (fun F => ?_)
 refine q2 (zp (asg .const) (q3 (zp (mv m1) (zp (mv m3) (zp (op_subU m1 m0) (zp (op_convI m0 Tryz.underlying50 Tryz.underlying3) (zo (asg m0) pick4 (q4 ?_))))))))
 subst hs
 exact et_fn () rfl (.cons e0 .nil) rfl Ent.refl
def r8ring_s (q : QV) (i : Int) : Option (Int) :=
 if q.cap < 1 then
  some (-1)
 else
 if (wu q.cap) ≠ 0 then
 some (wi (q.ring + (wi (Int.tmod i (wu q.cap)))))
 else none
theorem r8ring_ok {q : QV} {i : Int} {o : Int} (hs : r8ring_s q i = some o)   (B : Nat) (W : World)  : Fn_ Tryz.prog 75 #[.agg #[vi q.top, vi q.bottom, vi q.ring, vi q.cap], vu i] B W [] (X := Unit) (fun x => vi o) (fun x => []) := by
 unfold r8ring_s at hs
 refine fe2 Tryz.func75 17 rfl (fun F => ?_)
 refine q2 (rn (ot_box m0 (us := [vi q.top, vi q.bottom, vi q.ring, vi q.cap]) rfl) ?_)
 rintro b1
 refine zp (asg .const) (q1 (cS (q2 (zp (fd 3 3 m1) (zq (ld 0 3 m0 e0 rfl) (zp (op_lss m0 .const) (q1 (ci hs m0 (fun h2 hs => ?_) (fun h2 hs => ?_)))))))))
 ·refine q2 (zo (asg .const) pick3 (q4 (tR ?_)))
  obtain rfl := sI hs
  exact et_fn () rfl (.cons e0 .nil) rfl (d1 Ent.refl)
 refine cK (tT (cS (ct_draw (by kernel_rfl) (by kernel_rfl) ?_)))
 refine yp (fd 2 2 m4) (yq (ld 0 2 m0 e0 rfl) (yp (mv m8) (yp (fd 3 3 m7) (yq (ld 0 3 m0 e0 rfl) (yp (op_convU m0 Tryz.underlying3 Tryz.underlying50) ?_)))))
 obtain ⟨g3, hs⟩ := gO hs
 refine yp (op_remU m3 m0 g3) (yp (op_convI m0 Tryz.underlying50 Tryz.underlying3) (yp (aI m6 m0) (qt_q (asg m0).q wants_none (put_over pick12 (by kernel_rfl)) ?_)))
 refine qN (tT (cQ ?_))
 obtain rfl := sI hs
 exact et_fn () rfl (.cons e0 .nil) rfl (d1 Ent.refl)
def r2draw_s (draw : Int) (n : Int) : Option (Int) :=
 if n < 1 then
  some 0
 else
 if n ≠ 0 then
 if (Int.tmod draw n) < 0 then
  if n ≠ 0 then
  some (wi ((Int.tmod draw n) + n))
  else none
 else
 if n ≠ 0 then
 some (Int.tmod draw n)
 else none
 else none
theorem r2draw_ok {n : Int} {o : Int} (hs : r2draw_s draw n = some o)   (B : Nat) (W : World)  : Fn_ Tryz.prog 37 #[vi draw, vi n] B W [] (X := Unit) (fun x => vi o) (fun x => []) := by
 unfold r2draw_s at hs
 refine fe2 Tryz.func37 19 rfl (fun F => ?_)
 refine q2 (zp (asg .const) (q1 (cS (q2 (zp (mv m2) (zp (op_lss m0 .const) (q1 (ci hs m0 (fun h1 hs => ?_) (fun h1 hs => ?_)))))))))
 ·refine q2 (zo (asg .const) pick2 (q4 (tR ?_)))
  obtain rfl := sI hs
  exact et_fn () rfl (.cons e0 .nil) rfl Ent.refl
 refine cK (tT (cS (q2 (zp (mv m3) (zp (mv m5) ?_)))))
 obtain ⟨g2, hs⟩ := gO hs
 refine zp (op_remI m1 m0 g2) (zp (op_lss m0 .const) (q1 (ci hs m0 (fun h3 hs => ?_) (fun h3 hs => ?_))))
 ·refine q2 (zp (mv m7) (zp (mv m9) ?_))
  obtain ⟨g4, hs⟩ := gO hs
  refine zp (op_remI m1 m0 g4) (zp (mv m11) (zp (aI m1 m0) (zo (asg m0) pick11 (q4 (tR ?_)))))
  obtain rfl := sI hs
  exact et_fn () rfl (.cons e0 .nil) rfl Ent.refl
 refine cK (tT (q2 (zp (mv m7) (zp (mv m9) ?_))))
 obtain ⟨g5, hs⟩ := gO hs
 refine zp (op_remI m1 m0 g5) (zo (asg m0) pick9 (q4 ?_))
 obtain rfl := sI hs
 exact et_fn () rfl (.cons e0 .nil) rfl Ent.refl
def r1class_s (level : Int) (levels : Int) (classes : Int) : Option (Int) :=
 if (levels < 1) ∨ ((64 < levels) ∨ ((level < 0) ∨ ((levels ≤ level) ∨ ((classes < 1) ∨ (8 < classes))))) then
  some 0
 else
 if levels ≠ 0 then
 some (wi (Int.tdiv (wi (level * classes)) levels))
 else none
theorem r1class_ok {level : Int} {levels : Int} {classes : Int} {o : Int} (hs : r1class_s level levels classes = some o)   (B : Nat) (W : World)  : Fn_ Tryz.prog 174 #[vi level, vi levels, vi classes] B W [] (X := Unit) (fun x => vi o) (fun x => []) := by
 unfold r1class_s at hs
 refine fe3 Tryz.func174 35 rfl (fun F => ?_)
 refine q2 (zp (asg .const) (q1 (cS (cS (ct_cut (X := Unit) (fun _ => True) (fun _ => [(29, .bool (decide ((levels < 1) ∨ ((64 < levels) ∨ ((level < 0) ∨ ((levels ≤ level) ∨ ((classes < 1) ∨ (8 < classes)))))))), (6, zi), (0, vi level), (1, vi levels), (2, vi classes)]) (fun _ => [F]) ?_ (fun _ _ => (?_ : CT _ _ _ _ _ _ _ _ _)))))))
 ·refine cR (zp (mv m2) (zp (op_lss m0 .const) (zp (mv m0) (rt_case t0 t0 (fun h1 => ?_) (fun h1 => ?_)))))
  ·exact zk rfl rfl e0 (zk rfl rfl e1 (zp (op_pick (b := true) m2 .const) (zp (mv m0) (zk rfl rfl e0 (zk rfl rfl e1 (zp (op_pick (b := true) m2 .const) (zp (mv m0) (zk rfl rfl e0 (zk rfl rfl e1 (zk rfl rfl e2 (zp (op_pick (b := true) m3 .const) (zp (mv m0) (zk rfl rfl e0 (zk rfl rfl e1 (zp (op_pick (b := true) m2 .const) (zp (mv m0) (zk rfl rfl e0 (zk rfl rfl e1 (zp (op_pick (b := true) m2 .const) (rN (et_cut () trivial (.cons e0 (by simp only [eq_true h1, ↓reduceIte, reduceCtorEq, bS]) (lc (eU e3) (lc (eU e4) (lc (eU e5) (lc (eU e6) .nil))))) Ent.refl)))))))))))))))))))))
  refine zw (mv m5).q rfl rfl e0 (zw (op_gtr m0 .const).q rfl rfl e1 (zp (op_pick (b := false) m2 m0) (zp (mv m0) (rt_case t0 t0 (fun h2 => ?_) (fun h2 => ?_)))))
  ·exact zk rfl rfl e0 (zk rfl rfl e1 (zp (op_pick (b := true) m2 .const) (zp (mv m0) (zk rfl rfl e0 (zk rfl rfl e1 (zk rfl rfl e2 (zp (op_pick (b := true) m3 .const) (zp (mv m0) (zk rfl rfl e0 (zk rfl rfl e1 (zp (op_pick (b := true) m2 .const) (zp (mv m0) (zk rfl rfl e0 (zk rfl rfl e1 (zp (op_pick (b := true) m2 .const) (rN (et_cut () trivial (.cons e0 (by simp only [eq_false h1, eq_true h2, ↓reduceIte, reduceCtorEq, bS]) (lc (eU e3) (lc (eU e4) (lc (eU e5) (lc (eU e6) .nil))))) Ent.refl)))))))))))))))))
  refine zw (mv m8).q rfl rfl e0 (zw (op_lss m0 .const).q rfl rfl e1 (zp (op_pick (b := false) m2 m0) (zp (mv m0) (rt_case t0 t0 (fun h3 => ?_) (fun h3 => ?_)))))
  ·exact zk rfl rfl e0 (zk rfl rfl e1 (zk rfl rfl e2 (zp (op_pick (b := true) m3 .const) (zp (mv m0) (zk rfl rfl e0 (zk rfl rfl e1 (zp (op_pick (b := true) m2 .const) (zp (mv m0) (zk rfl rfl e0 (zk rfl rfl e1 (zp (op_pick (b := true) m2 .const) (rN (et_cut () trivial (.cons e0 (by simp only [eq_false h1, eq_false h2, eq_true h3, ↓reduceIte, reduceCtorEq, bS]) (lc (eU e3) (lc (eU e4) (lc (eU e5) (lc (eU e6) .nil))))) Ent.refl)))))))))))))
  refine zw (mv m12).q rfl rfl e0 (zw (mv m14).q rfl rfl e1 (zw (op_geq m1 m0).q rfl rfl e2 (zp (op_pick (b := false) m3 m0) (zp (mv m0) (rt_case t0 t0 (fun h4 => ?_) (fun h4 => ?_))))))
  ·exact zk rfl rfl e0 (zk rfl rfl e1 (zp (op_pick (b := true) m2 .const) (zp (mv m0) (zk rfl rfl e0 (zk rfl rfl e1 (zp (op_pick (b := true) m2 .const) (rN (et_cut () trivial (.cons e0 (by simp only [eq_false h1, eq_false h2, eq_false h3, eq_true h4, ↓reduceIte, reduceCtorEq, bS]) (lc (eU e3) (lc (eU e4) (lc (eU e5) (lc (eU e6) .nil))))) Ent.refl))))))))
  refine zw (mv m19).q rfl rfl e0 (zw (op_lss m0 .const).q rfl rfl e1 (zp (op_pick (b := false) m2 m0) (zp (mv m0) (rt_case t0 t0 (fun h5 => ?_) (fun h5 => ?_)))))
  ·exact zk rfl rfl e0 (zk rfl rfl e1 (zp (op_pick (b := true) m2 .const) (rN (et_cut () trivial (.cons e0 (by simp only [eq_false h1, eq_false h2, eq_false h3, eq_false h4, eq_true h5, ↓reduceIte, reduceCtorEq, bS]) (lc (eU e3) (lc (eU e4) (lc (eU e5) (lc (eU e6) .nil))))) Ent.refl))))
  exact zw (mv (mU m3)).q rfl rfl e0 (zw (op_gtr m0 .const).q rfl rfl e1 (zp (op_pick (b := false) m2 m0) (rN (et_cut () trivial (.cons e0 (by simp only [eq_false h1, eq_false h2, eq_false h3, eq_false h4, eq_false h5, ↓reduceIte, reduceCtorEq, bS]) (lc (eU e3) (lc (eU e4) (lc (eU e5) (lc (eU e6) .nil))))) Ent.refl))))
 refine ci hs m0 (fun h6 hs => ?_) (fun h6 hs => ?_)
 ·refine q2 (zo (asg .const) pick1 (q4 (tR ?_)))
  obtain rfl := sI hs
  exact et_fn () rfl (.cons e0 .nil) rfl Ent.refl
 refine cK (tT (q2 (zp (mv m2) (zp (mv m5) (zp (op_mulI m1 m0) (zp (mv m6) ?_))))))
 obtain ⟨g7, hs⟩ := gO hs
 refine zp (op_quoI m1 m0 g7) (zo (asg m0) pick6 (q4 ?_))
 obtain rfl := sI hs
 exact et_fn () rfl (.cons e0 .nil) rfl Ent.refl
end
section
open Go Go.RowKit
set_option maxRecDepth 100000
set_option maxHeartbeats 2000000
variable {c : Cfg} {m : MemV} {now draw : Int} {recs : List RecV} {evs : List Ev} {f : FrV}
def r2in_s (m : MemV) (cell : Int) : Bool :=
 if 0 ≤ cell then
  (decide (cell < ((m.cells.length : Nat) : Int)))
 else
 false
theorem r2in_ok {cell : Int} {o : Bool} (hs : r2in_s m cell = o) (mb mo : Nat)  (B : Nat) (W : World)  : Fn_ Tryz.prog 185 #[vp mb mo, vi cell] B W [memS mb mo m] (X := Unit) (fun x => .bool (o)) (fun x => [memS mb mo m]) := by
 unfold r2in_s at hs
 refine fe2 Tryz.func185 16 rfl (fun F => ?_)
 refine q2 (zp (asg .const) (q3 (zp (mv m2) (zp (op_geq m0 .const) (zp (mv m0) (rt_case t0 t0 (fun h1 => ?_) (fun h1 => ?_)))))))
 ·replace hs := ip h1 hs
  refine zw (mv m5).q rfl rfl e0 (zw (mv m5).q rfl rfl e1 (zw (nc m0).q rfl rfl e2 (zw (fd 0 mo m0).q rfl rfl e3 (rt_open pick0 ?_))))
  rintro ⟨A2, c2⟩
  refine zw (ld mo 0 m0 e0 rfl) rfl rfl e4 (zw (op_len m0 Tryz.underlying49).q rfl rfl e5 (zw (op_lss m5 m0).q rfl rfl e6 (zp (op_pick (b := true) m7 m0) (zo (asg m0) pick11 (q4 (tE (mem_shut (m := m) rfl) ?_))))))
  subst hs
  exact et_fn () rfl (.cons e0 .nil) rfl Ent.refl
 replace hs := im h1 hs
 refine zk rfl rfl e0 (zk rfl rfl e1 (zk rfl rfl e2 (zk rfl rfl e3 (zk rfl rfl e4 (zk rfl rfl e5 (zk rfl rfl e6 (zp (op_pick (b := false) m7 .const) (zo (asg m0) pick11 (q4 ?_)))))))))
 subst hs
 exact et_fn () rfl (.cons e0 .nil) rfl Ent.refl
theorem r2in_of {m : MemV} {cell : Int} (h : (!r2in_s m cell) = false) : 0 ≤ cell ∧ cell < (m.cells.length : Int) := by
 have h1 : r2in_s m cell = true := by simpa using h
 unfold r2in_s at h1
 split at h1
 ·exact ⟨by assumption, by simpa using h1⟩
 cases h1
def r2access_s (m : MemV) (kind : Int) (cell : Int) (v : Int) (w : Int) : Int × Bool × MemV :=
 if (!(r2in_s m cell)) = true then
  (0, false, m)
 else
 ((at_ m.cells cell), (decide ((kind = 2) ∨ (¬ (kind = 3) ∨ ((at_ m.cells cell) = v)))), (⟨(st_ m.cells cell (if kind = 2 then v else (if kind = 3 then (if (at_ m.cells cell) = v then w else (at_ m.cells cell)) else (if kind = 4 then (orU (at_ m.cells cell) v) else (if kind = 5 then (andU (at_ m.cells cell) v) else (if kind = 6 then (wu ((at_ m.cells cell) + v)) else (at_ m.cells cell))))))), (⟨kind, cell, (at_ m.cells cell), (if kind = 2 then v else (if kind = 3 then (if (at_ m.cells cell) = v then w else (at_ m.cells cell)) else (if kind = 4 then (orU (at_ m.cells cell) v) else (if kind = 5 then (andU (at_ m.cells cell) v) else (if kind = 6 then (wu ((at_ m.cells cell) + v)) else (at_ m.cells cell))))))⟩ : AccV), (wi (m.count + 1))⟩ : MemV))
theorem r2access_ok {kind : Int} {cell : Int} {v : Int} {w : Int} {o : Int × Bool × MemV} (hs : r2access_s m kind cell v w = o) (mb mo : Nat)  (B : Nat) (W : World)  : Fn_ Tryz.prog 161 #[vp mb mo, vi kind, vi cell, vu v, vu w] B W [memS mb mo m] (X := Unit) (fun x => .tuple #[vu o.1, .bool (o.2.1)]) (fun x => [memS mb mo o.2.2]) := by
 unfold r2access_s at hs
 refine fe5 Tryz.func161 77 rfl (fun F => ?_)
 refine q2 (zp (asg .const) (zp (asg .const) (q1 (cS (q2 (zp (mv m2) (zp (mv m5) (zq (cq (.cons m1 (.cons m0 .nil)) (r2in_ok (o := r2in_s m cell) rfl mb mo _ _) (p0 pn)) (zp (op_notb m0) (q1 (cj hs m0 (fun h1 hs => ?_) (fun h1 hs => ?_))))))))))))
 ·refine q2 (zo (asg .const) pick5 (zo (asg .const) pick5 (q4 (tR ?_))))
  subst hs
  exact et_fn () rfl (.cons e1 (.cons e0 .nil)) rfl Ent.refl
 have hin := r2in_of h1
 refine cK (tT (q2 (zp (mv m6) (zp (nc m0) (zp (fd 0 mo m0) (rt_open pick0 ?_))))))
 rintro ⟨A2, c2⟩
 refine zq (ld mo 0 m0 e0 rfl) (zp (mv m12) (zq (oq_indexS (i := (cell).toNat) m1 m0 e1 (by omega) (by omega) (by omega) (by kernel_rfl) (Nat.mul_one _)) (zq (oq_loadS (i := (cell).toNat) m0 e1 (at_map hin) (by kernel_rfl)) (zp (asg m0) (q3 (zp (mv m0) (zp (asg m0) (zp (asg .const) (q1 (cS (q2 (zp (mv m18) (q1 (ct_cut (X := Unit) (fun _ => True) (fun _ => [(13, vu ((if kind = 2 then v else (if kind = 3 then (if (at_ m.cells cell) = v then w else (at_ m.cells cell)) else (if kind = 4 then (orU (at_ m.cells cell) v) else (if kind = 5 then (andU (at_ m.cells cell) v) else (if kind = 6 then (wu ((at_ m.cells cell) + v)) else (at_ m.cells cell)))))))), (14, .bool (decide ((kind = 2) ∨ (¬ (kind = 3) ∨ ((at_ m.cells cell) = v))))), (12, vu ((at_ m.cells cell))), (11, .bool false), (10, vu 0), (0, vp mb mo), (1, vi kind), (2, vi cell)]) (fun _ => pts mb mo [.slice A2 m.cells.length c2, vi m.last.kind, vi m.last.cell, vu m.last.old, vu m.last.new, vi m.count] :: rowS A2 m.cells.length c2 1 (m.cells.map (Value.int .u64)) :: [F]) ?_ (fun _ _ => (?_ : CT _ _ _ _ _ _ _ _ _))))))))))))))))
 ·refine cB (q2 (zp (eqL m0 .const) (zp (asg m0) (q1 (ct_if m0 (fun h3 => ?_) (fun h3 => ?_))))))
  ·exact cR (zp (mv (mU m3)) (zo (asg m0) pick5 (rN (tB (et_cut () trivial (.cons e0 (by simp only [eq_true h3, ↓reduceIte, reduceCtorEq, bS]) (.cons e5 (by simp only [eq_true h3, ↓reduceIte, reduceCtorEq, bS]) (lc e7 (lc e19 (lc (eU e0) (lc (eU e1) (lc (eU e2) (lc (eU e3) .nil)))))))) Ent.refl)))))
  refine q2 (zp (eqL m2 .const) (zp (asg m0) (q1 (ct_if m0 (fun h4 => ?_) (fun h4 => ?_)))))
  ·refine q2 (zp (mv m8) (zp (mv (mU m6)) (zp (eqL m1 m0) (zo (asg m0) pick8 (q3 (zp (mv m0) (q1 (ct_if m0 (fun h5 => ?_) (fun h5 => ?_)))))))))
   ·exact cR (zp (mv (mU m10)) (zo (asg m0) pick11 (rN (tB (et_cut () trivial (.cons e0 (by simp only [eq_false h3, eq_true h4, eq_true h5, ↓reduceIte, reduceCtorEq, bS]) (.cons e3 (by simp only [eq_false h3, eq_true h4, eq_true h5, ↓reduceIte, reduceCtorEq, bS]) (lc e13 (lc (eU e5) (lc (eU e6) (lc (eU e7) (lc (eU e8) (lc (eU e9) .nil)))))))) Ent.refl)))))
   exact cK (tB (et_cut () trivial (.cons e10 (by simp only [eq_false h3, eq_true h4, eq_false h5, ↓reduceIte, reduceCtorEq, bS]) (.cons e1 (by simp only [eq_false h3, eq_true h4, eq_false h5, ↓reduceIte, reduceCtorEq, bS]) (lc e12 (lc (eU e4) (lc (eU e5) (lc (eU e6) (lc (eU e7) (lc (eU e8) .nil)))))))) Ent.refl))
  refine q2 (zp (eqL m4 .const) (zp (asg m0) (q1 (ct_if m0 (fun h6 => ?_) (fun h6 => ?_)))))
  ·exact cR (zp (mv m10) (zp (mv (mU m8)) (zp (op_orW m1 m0) (zo (asg m0) pick11 (rN (tB (et_cut () trivial (.cons e0 (by simp only [eq_false h3, eq_false h4, eq_true h6, ↓reduceIte, reduceCtorEq, bS]) (.cons e11 (by simp only [eq_false h3, eq_false h4, eq_true h6, ↓reduceIte, reduceCtorEq, bS]) (lc e13 (lc (eU e5) (lc (eU e6) (lc (eU e7) (lc (eU e8) (lc (eU e9) .nil)))))))) Ent.refl)))))))
  refine q2 (zp (eqL m6 .const) (zp (asg m0) (q1 (ct_if m0 (fun h7 => ?_) (fun h7 => ?_)))))
  ·exact cR (zp (mv m12) (zp (mv (mU m10)) (zp (op_andW m1 m0) (zo (asg m0) pick13 (rN (tB (et_cut () trivial (.cons e0 (by simp only [eq_false h3, eq_false h4, eq_false h6, eq_true h7, ↓reduceIte, reduceCtorEq, bS]) (.cons e13 (by simp only [eq_false h3, eq_false h4, eq_false h6, eq_true h7, ↓reduceIte, reduceCtorEq, bS]) (lc e15 (lc (eU e7) (lc (eU e8) (lc (eU e9) (lc (eU e10) (lc (eU e11) .nil)))))))) Ent.refl)))))))
  refine q2 (zp (eqL m8 .const) (zp (asg m0) (q1 (ct_if m0 (fun h8 => ?_) (fun h8 => ?_)))))
  ·exact cR (zp (mv m14) (zp (mv (mU m12)) (zp (op_addU m1 m0) (zo (asg m0) pick15 (rN (tB (et_cut () trivial (.cons e0 (by simp only [eq_false h3, eq_false h4, eq_false h6, eq_false h7, eq_true h8, ↓reduceIte, reduceCtorEq, bS]) (.cons e15 (by simp only [eq_false h3, eq_false h4, eq_false h6, eq_false h7, eq_true h8, ↓reduceIte, reduceCtorEq, bS]) (lc e17 (lc (eU e9) (lc (eU e10) (lc (eU e11) (lc (eU e12) (lc (eU e13) .nil)))))))) Ent.refl)))))))
  exact cK (tB (et_cut () trivial (.cons e12 (by simp only [eq_false h3, eq_false h4, eq_false h6, eq_false h7, eq_false h8, ↓reduceIte, reduceCtorEq, bS]) (.cons e11 (by simp only [eq_false h3, eq_false h4, eq_false h6, eq_false h7, eq_false h8, ↓reduceIte, reduceCtorEq, bS]) (lc e14 (lc (eU e6) (lc (eU e7) (lc (eU e8) (lc (eU e9) (lc (eU e10) .nil)))))))) Ent.refl))
 refine q2 (zp (mv m5) (zp (nc m0) (zp (fd 0 mo m0) (zq (ld mo 0 m0 e0 rfl) (zp (mv m11) (zp (mv m5) (zq (oq_indexS (i := (cell).toNat) m2 m1 e1 (by omega) (by omega) (by omega) (by kernel_rfl) (Nat.mul_one _)) (pkR (p1 pn) (rz (ot_storeS (i := (cell).toNat) m0 m1 t0 (by rw [List.length_map]; omega) (by kernel_rfl) rfl) (rE ent_stS (q3 (zp (mv m12) (zp (mv m14) (zp (mv m16) (zp (mv m12) (zp (mv m11) (zp (op_build (v := .agg #[vi kind, vi cell, vu ((at_ m.cells cell)), vu ((if kind = 2 then v else (if kind = 3 then (if (at_ m.cells cell) = v then w else (at_ m.cells cell)) else (if kind = 4 then (orU (at_ m.cells cell) v) else (if kind = 5 then (andU (at_ m.cells cell) v) else (if kind = 6 then (wu ((at_ m.cells cell) + v)) else (at_ m.cells cell)))))))]) (.cons m3 (.cons m2 (.cons m1 (.cons m0 .nil)))) (fun _ => by kernel_rfl)) (zp (nc m5) (zp (fd 1 (mo + 1) m0) (rz (ot_store (o := mo) (i := 1) (k := 4) (us := [vi kind, vi cell, vu ((at_ m.cells cell)), vu ((if kind = 2 then v else (if kind = 3 then (if (at_ m.cells cell) = v then w else (at_ m.cells cell)) else (if kind = 4 then (orU (at_ m.cells cell) v) else (if kind = 5 then (andU (at_ m.cells cell) v) else (if kind = 6 then (wu ((at_ m.cells cell) + v)) else (at_ m.cells cell)))))))]) (ws := [.slice A2 m.cells.length c2, vi kind, vi cell, vu ((at_ m.cells cell)), vu ((if kind = 2 then v else (if kind = 3 then (if (at_ m.cells cell) = v then w else (at_ m.cells cell)) else (if kind = 4 then (orU (at_ m.cells cell) v) else (if kind = 5 then (andU (at_ m.cells cell) v) else (if kind = 6 then (wu ((at_ m.cells cell) + v)) else (at_ m.cells cell))))))), vi m.count]) m0 m2 t1 (by omega) (by kernel_rfl) rfl (by decide) rfl rfl (Nat.le_of_ble_eq_true rfl) rfl) (q3 (zp (mv (mU m0)) (zp (nc m0) (zp (fd 5 (mo + 5) m0) (zq (ld mo 5 m0 e1 rfl) (zp (aI m0 .const) (zp (nc m4) (zp (fd 5 (mo + 5) m0) (rz (st1 mo w5 m0 m2 t1) (q3 (zp (mv (mU m4)) (zp (mv (mU m4)) (zo (asg m1) (pickU pick8) (zo (asg m1) (pickU pick8) (q4 (pkE (p1 pn) (tE (mem_shut (m := (⟨(st_ m.cells cell (if kind = 2 then v else (if kind = 3 then (if (at_ m.cells cell) = v then w else (at_ m.cells cell)) else (if kind = 4 then (orU (at_ m.cells cell) v) else (if kind = 5 then (andU (at_ m.cells cell) v) else (if kind = 6 then (wu ((at_ m.cells cell) + v)) else (at_ m.cells cell))))))), (⟨kind, cell, (at_ m.cells cell), (if kind = 2 then v else (if kind = 3 then (if (at_ m.cells cell) = v then w else (at_ m.cells cell)) else (if kind = 4 then (orU (at_ m.cells cell) v) else (if kind = 5 then (andU (at_ m.cells cell) v) else (if kind = 6 then (wu ((at_ m.cells cell) + v)) else (at_ m.cells cell))))))⟩ : AccV), (wi (m.count + 1))⟩ : MemV)) (by simp [st_])) ?_)))))))))))))))))))))))))))))))))))))
 subst hs
 exact et_fn () rfl (.cons e1 (.cons e0 .nil)) rfl Ent.refl
end
end Go.Proofs.YtpbkelpokpglaaaGreat
