/- Scripts, made of numbers. The reference's engine: how it lies. No program occurs here. -/
import Derived.Test.YtpbkelpokpglaaaGreatKu
import Derived.Test.YtpbkelpokpglaaaGreatKl
import Derived.Test.YtpbkelpokpglaaaGreatKk
import Derived.Test.YtpbkelpokpglaaaGreatRows
set_option linter.all false
namespace Go.Proofs.YtpbkelpokpglaaaGreat
section
open Go Go.RowKit
set_option maxRecDepth 100000
set_option maxHeartbeats 2000000
variable {c : Cfg} {m : MemV} {now draw : Int} {recs : List RecV} {evs : List Ev} {f : FrV}
def kpick_s (m : Int) : EntV :=
 (⟨0, m⟩ : EntV)
theorem kpick_ok {m : Int} {o : EntV} (hs : kpick_s m = o)   (B : Nat) (W : World)  : Fn_ Tryz.prog 28 #[vi m] B W [] (X := Unit) (fun x => .agg #[vi o.kind, vi o.value]) (fun x => []) := by
 unfold kpick_s at hs
 refine fe1 Tryz.func28 5 rfl (fun F => ?_)
 refine q2 (rn (al [zi, zi]) ?_)
 rintro b1
 refine q3 (zp (mv m1) (zp (op_build (v := .agg #[zi, vi m]) (.cons .const (.cons m0 .nil)) (fun _ => by kernel_rfl)) (rz (sta 0 m2 m0 t0) (q4 ?_))))
 subst hs
 exact fa e2 e0 (d1 Ent.refl)
def knumber_s (l : List Int) (i : Int) (n : Int) : Option (Int) :=
 if ((l.length : Nat) : Int) = 0 then
  some 0
 else
 if ((l.length : Nat) : Int) ≠ 0 then
 if 0 ≤ (Int.tmod i ((l.length : Nat) : Int)) ∧ (Int.tmod i ((l.length : Nat) : Int)) < (l.length : Int) then
 if ((l.length : Nat) : Int) ≠ 0 then
 if (wi (1 + (Int.tmod (wi (Int.tdiv i ((l.length : Nat) : Int))) 7))) ≠ 0 then
 (r2draw_s (wi (Int.tdiv (at_ l (Int.tmod i ((l.length : Nat) : Int))) (wi (1 + (Int.tmod (wi (Int.tdiv i ((l.length : Nat) : Int))) 7))))) n).bind fun r6 =>
 some r6
 else none
 else none
 else none
 else none
theorem knumber_ok {l : List Int} {i : Int} {n : Int} {o : Int} (hs : knumber_s l i n = some o) (lA : Option Addr) (lC : Nat)  (B : Nat) (W : World) (hl : Sl encInt 1 W B lA l) : Fn_ Tryz.prog 17 #[.slice lA l.length lC, vi i, vi n] B W [] (X := Unit) (fun x => vi o) (fun x => []) := by
 unfold knumber_s at hs
 refine fe3 Tryz.func17 26 rfl (fun F => ?_)
 refine q2 (zp (asg .const) (q1 (cS (q2 (zp (mv m1) (zp (op_len m0 Tryz.underlying23) (zp (eqL m0 .const) (q1 (ci hs m0 (fun h1 hs => ?_) (fun h1 hs => ?_))))))))))
 ·refine q2 (zo (asg .const) pick3 (q4 (tR ?_)))
  obtain rfl := sI hs
  exact et_fn () rfl (.cons e0 .nil) rfl Ent.refl
 refine cK (tT (cS (ct_draw (by kernel_rfl) (by kernel_rfl) ?_)))
 refine yp (mv m4) (yp (mv m6) (yp (mv m6) (yp (op_len m0 Tryz.underlying23) ?_)))
 obtain ⟨g2, hs⟩ := gO hs
 refine yp (op_remI m2 m0 g2) ?_
 obtain ⟨g3, hs⟩ := gO hs
 refine yq (oq_indexD (enc := encInt) (sz' := 1) (sz := 1) (xs := l) m4 m0 (rd_w hl) g3 rfl (by kernel_rfl) (Nat.mul_one _)) (yq (oq_loadD1 (enc := encInt) (sz := 1) (i := ((Int.tmod i ((l.length : Nat) : Int))).toNat) (j := 0) (xs := l) m0 (rd_w hl) (at_get g3) rfl (by omega) (by kernel_rfl)) (yp (mv m12) (yp (mv m12) (yp (op_len m0 Tryz.underlying23) ?_))))
 obtain ⟨g4, hs⟩ := gO hs
 refine yp (op_quoI m2 m0 g4) (yp (op_remI m0 .const (by decide)) (yp (aI .const m0) ?_))
 obtain ⟨g5, hs⟩ := gO hs
 refine yp (op_quoI m6 m0 g5) (yp (mv (mU m0)) ?_)
 obtain ⟨r6, hr6, hs⟩ := bO_of hs
 refine yq (cq (.cons m1 (.cons m0 .nil)) (r2draw_ok hr6  _ _) pn) (qt_q (asg m0).q wants_none (put_over pick19 (by kernel_rfl)) ?_)
 refine qN (tT (cQ ?_))
 obtain rfl := sI hs
 exact et_fn () rfl (.cons e0 .nil) rfl Ent.refl
def kinsert_s (l : List EntV) (e : EntV) (at0 : Int) : Option ((List EntV)) :=
 if 0 ≤ at0 ∧ at0 ≤ (l.length : Int) then
 if (((0 + (l.take (at0).toNat).length : Nat)) : Int) < 100000000000 then
 if ((((l.take (at0).toNat).length + 1 : Nat)) : Int) < 100000000000 then
 if (((((l.take (at0).toNat) ++ [e]).length + (l.drop (at0).toNat).length : Nat)) : Int) < 100000000000 then
 some (((l.take (at0).toNat) ++ [e]) ++ (l.drop (at0).toNat))
 else none
 else none
 else none
 else none
theorem kinsert_ok {l : List EntV} {e : EntV} {at0 : Int} {o : (List EntV)} (hs : kinsert_s l e at0 = some o) (lA : Option Addr) (lC : Nat)  (B : Nat) (W : World)  : Fn_ Tryz.prog 30 #[.slice lA l.length lC, .agg #[vi e.kind, vi e.value], vi at0] B W [roS EntV.enc 2 lA lC l] (X := Option Addr × Nat) (fun x => .slice x.1 o.length x.2) (fun x => [rowS x.1 o.length x.2 2 (o.flatMap EntV.enc), roS EntV.enc 2 lA lC l]) := by
 unfold kinsert_s at hs
 refine fe3 Tryz.func30 22 rfl (fun F => ?_)
 refine q2 (rn (ot_box m1 (us := [vi e.kind, vi e.value]) rfl) ?_)
 rintro b1
 refine zp (asg .const) (q3 (rn (ot_buildSlice (T' := 78) (us := []) .nil (fun _ => by kernel_rfl)) ?_))
 rintro b2
 refine zp (mv m3) (zp (mv m6) (rt_fact (fun _ hw => (ro_sl hw.2.2 e2).2) (fun hc3 => ?_)))
 obtain ⟨g4, hs⟩ := gO hs
 refine zp (op_sliceH (xs := l) m1 Tryz.underlying33 (by kernel_rfl : _ = 2) (by omega) m0 g4 hc3) (rE (Ent.cons (rowS_of_pts (n := 0) (sz := 2) (vs := ([] : List EntV).flatMap EntV.enc) rfl (by unfold maxLen; omega)) Ent.refl) (pkR (p2 pn) (rE (ro_take (k := (at0).toNat)) ?_)))
 obtain ⟨g6, hs⟩ := gO hs
 refine rn (ot_appendG (by_ := 16) (z := .agg #[zi, zi]) (us := (l.take (at0).toNat).flatMap EntV.enc) m3 m0 (src_rd (enc := EntV.enc) (sz := 2) (fun _ => rfl) (rd_ro e0) rfl) pick2 Tryz.underlying33 (infoB_of (by kernel_rfl)) rfl (by decide) (flat_len (enc := EntV.enc) (sz := 2) (fun _ => rfl) _) (flat_scal (enc := EntV.enc) (fun _ => rfl) _) (by unfold maxLen; omega) (by omega)) ?_
 rintro ⟨A5, c5⟩
 refine rE (ent_flatx (ys := (l.take (at0).toNat)) rfl) ?_
 rw [show (0 + (l.take (at0).toNat).length) = (l.take (at0).toNat).length from Nat.zero_add _]
 refine zp (asg m0) (q3 (zp (mv m0) (zq (lda 0 m8 e3) (rn (ot_buildSlice (T' := 78) (us := [vi e.kind, vi e.value]) (.cons m0 .nil) (fun _ => by kernel_rfl)) ?_))))
 rintro b7
 obtain ⟨g9, hs⟩ := gO hs
 refine rn (ot_append (by_ := 16) (z := .agg #[zi, zi]) m2 m0 (p1 (p0 .nil)) Tryz.underlying33 (infoB_of (by kernel_rfl)) rfl (by decide) rfl rfl (by decide) (by unfold maxLen; omega) (by omega)) ?_
 rintro ⟨A8, c8⟩
 refine rE (ent_flatx (ys := [e]) rfl) ?_
 rw [show ((l.take (at0).toNat).length + 1) = ((l.take (at0).toNat) ++ [e]).length from (List.length_append (bs := [e])).symm]
 refine zo (asg m0) pick4 (q3 (zp (mv m0) (zp (mv m13) (zp (mv m16) (zp (op_sliceT (xs := l) m1 Tryz.underlying33 (by kernel_rfl : _ = 2) (by omega) m0 g4 hc3) (pkR (p2 pn) (rE (ro_drop (k := (at0).toNat) (by omega)) ?_)))))))
 obtain ⟨g11, hs⟩ := gO hs
 refine rn (ot_appendG (by_ := 16) (z := .agg #[zi, zi]) (us := (l.drop (at0).toNat).flatMap EntV.enc) m3 m0 (src_rd (enc := EntV.enc) (sz := 2) (fun _ => rfl) (rd_ro e0) rfl) pick2 Tryz.underlying33 (infoB_of (by kernel_rfl)) rfl (by decide) (flat_len (enc := EntV.enc) (sz := 2) (fun _ => rfl) _) (flat_scal (enc := EntV.enc) (fun _ => rfl) _) (by unfold maxLen; omega) (by omega)) ?_
 rintro ⟨A10, c10⟩
 refine rE (ent_flatx (ys := (l.drop (at0).toNat)) rfl) ?_
 rw [show (((l.take (at0).toNat) ++ [e]).length + (l.drop (at0).toNat).length) = (((l.take (at0).toNat) ++ [e]) ++ (l.drop (at0).toNat)).length from (List.length_append (bs := (l.drop (at0).toNat))).symm]
 refine zo (asg m0) pick15 (q4 ?_)
 obtain rfl := sI hs
 exact et_fn (vs := [.slice A10 ((((l.take (at0).toNat) ++ [e]) ++ (l.drop (at0).toNat)).length) c10]) ((A10 : Option Addr), c10) rfl (.cons e0 .nil) rfl (d3 (eP (p1 (p2 (p2 pn)))))
def r4decode_l1 (b : List Nat) : Nat → (List EntV) × Int → Option ((List EntV) × Int)
 | 0, _ => none
 | k + 1, y1 =>
  if (wi (y1.2 + 1)) < ((b.length : Nat) : Int) then
   if ((y1.1.length : Nat) : Int) < 65536 then
    if 0 ≤ y1.2 ∧ y1.2 < (b.length : Int) then
    if 0 ≤ (wi (y1.2 + 1)) ∧ (wi (y1.2 + 1)) < (b.length : Int) then
    if (Int.tmod (wi ((at_ b y1.2 : Nat) : Int)) 4) = 1 then
     if (((y1.1.length + 1 : Nat)) : Int) < 100000000000 then
     r4decode_l1 b k ((y1.1 ++ [(⟨(Int.tmod (wi ((at_ b y1.2 : Nat) : Int)) 4), 0⟩ : EntV)]), (wi (y1.2 + 2)))
     else none
    else
    if (Int.tmod (wi ((at_ b y1.2 : Nat) : Int)) 4) = 3 then
     if (((y1.1.length + 1 : Nat)) : Int) < 100000000000 then
     r4decode_l1 b k ((y1.1 ++ [(⟨(Int.tmod (wi ((at_ b y1.2 : Nat) : Int)) 4), 0⟩ : EntV)]), (wi (y1.2 + 2)))
     else none
    else
    if (((y1.1.length + 1 : Nat)) : Int) < 100000000000 then
    r4decode_l1 b k ((y1.1 ++ [(⟨(Int.tmod (wi ((at_ b y1.2 : Nat) : Int)) 4), (wi ((at_ b (wi (y1.2 + 1)) : Nat) : Int))⟩ : EntV)]), (wi (y1.2 + 2)))
    else none
    else none
    else none
   else
   some (y1.1, y1.2)
  else
  some (y1.1, y1.2)
def r4decode_s (b : List Nat) : Option ((List EntV)) :=
 (r4decode_l1 b (b.length + 1) ([], 0)).bind fun z1 =>
 some z1.1
theorem r4decode_ok {b : List Nat} {o : (List EntV)} (hs : r4decode_s b = some o) (bA : Option Addr) (bC : Nat)  (B : Nat) (W : World) (hb : Sl encByte 1 W B bA b) : Fn_ Tryz.prog 29 #[.slice bA b.length bC] B W [] (X := Option Addr × Nat) (fun x => .slice x.1 o.length x.2) (fun x => [rowS x.1 o.length x.2 2 (o.flatMap EntV.enc)]) := by
 unfold r4decode_s at hs
 refine fe1 Tryz.func29 45 rfl (fun F => ?_)
 refine q2 (zp (asg .const) (q3 (zp (asg .const) (q1 (cS (q2 (zp (asg .const) (q1 (cE (ent_niln (sz := 2) (enc := EntV.enc)) ?_)))))))))
 obtain ⟨z1, hz1, hs⟩ := bO_of hs
 refine ct_cutG (S := (List EntV) × Int) (G := Option Addr × Nat) (fun zw => z1 = zw) (fun z1 g1 => [(3, .slice g1.1 z1.1.length g1.2), (2, .slice none 0 0)]) (fun z1 g1 => rowS g1.1 z1.1.length g1.2 2 (z1.1.flatMap EntV.enc) :: [F]) ?_ (fun z1w g1 hy1 => (?_ : CT _ _ _ _ _ _ _ _ _))
 ·refine cB (ct_loopK (S := (List EntV) × Int) (G := Option Addr × Nat) (fun k y1 => r4decode_l1 b k y1 = some z1) (fun _ h => by rw [r4decode_l1] at h; cases h) (fun y1 g1 => [(3, .slice g1.1 y1.1.length g1.2), (4, vi y1.2), (2, .slice none 0 0), (0, .slice bA b.length bC)]) (fun y1 g1 => rowS g1.1 y1.1.length g1.2 2 (y1.1.flatMap EntV.enc) :: [F]) (b.length + 1) ([], 0) ((none : Option Addr), 0) hz1 (lc e1 (lc e0 (lc e2 (lc e3 .nil)))) Ent.refl (fun k1 y1 g1 hz => ?_))
  clear hz1
  have hz1 := hz; clear hz
  rw [r4decode_l1] at hz1
  refine cS (q2 (zp (mv m1) (zp (aI m0 .const) (zp (mv m5) (zp (op_len m0 Tryz.underlying22) (zp (op_lss m2 m0) (zp (mv m0) (rt_case t0 t0 (fun h1 => ?_) (fun h1 => ?_)))))))))
  ·replace hz1 := ip h1 hz1
   refine zw (mv m6).q rfl rfl e0 (zw (op_len m0 Tryz.underlying33).q rfl rfl e1 (zw (op_lss m0 .const).q rfl rfl e2 (zp (op_pick (b := true) m3 m0) (q1 (ci hz1 m0 (fun h2 hz1 => ?_) (fun h2 hz1 => ?_))))))
   ·refine cK (tT (cS (cB (cS ?_))))
    obtain ⟨g3, hz1⟩ := gO hz1
    obtain ⟨g4, hz1⟩ := gO hz1
    refine ct_cutG (S := Nat) (G := Unit) (fun _ => True) (fun b5 _ => [(5, vp b5 0), (30, .agg #[vi ((Int.tmod (wi ((at_ b y1.2 : Nat) : Int)) 4)), vi ((wi ((at_ b (wi (y1.2 + 1)) : Nat) : Int)))]), (29, vi ((wi ((at_ b (wi (y1.2 + 1)) : Nat) : Int)))), (28, .int .u8 (((at_ b (wi (y1.2 + 1)) : Nat) : Int))), (27, idx bA (((wi (y1.2 + 1))).toNat)), (23, vi ((Int.tmod (wi ((at_ b y1.2 : Nat) : Int)) 4))), (22, vi ((wi ((at_ b y1.2 : Nat) : Int)))), (21, .int .u8 (((at_ b y1.2 : Nat) : Int))), (20, idx bA ((y1.2).toNat)), (26, vi ((wi (y1.2 + 1)))), (25, vi y1.2), (24, .slice bA b.length bC), (19, vi y1.2), (18, .slice bA b.length bC), (15, .bool (decide (((y1.1.length : Nat) : Int) < 65536))), (14, .bool (decide (((y1.1.length : Nat) : Int) < 65536))), (13, vi (((y1.1.length : Nat) : Int))), (12, .slice g1.1 y1.1.length g1.2), (11, .bool true), (10, .bool (decide ((wi (y1.2 + 1)) < ((b.length : Nat) : Int)))), (9, vi (((b.length : Nat) : Int))), (8, .slice bA b.length bC), (7, vi ((wi (y1.2 + 1)))), (6, vi y1.2), (3, .slice g1.1 y1.1.length g1.2), (4, vi y1.2), (2, .slice none 0 0), (0, .slice bA b.length bC)]) (fun b5 _ => pts b5 0 [vi ((Int.tmod (wi ((at_ b y1.2 : Nat) : Int)) 4)), vi ((wi ((at_ b (wi (y1.2 + 1)) : Nat) : Int)))] :: rowS g1.1 y1.1.length g1.2 2 (y1.1.flatMap EntV.enc) :: [F]) ?_ (fun b5 _ _ => (?_ : CT _ _ _ _ _ _ _ _ _))
    ·refine ca 15 ?_
     refine at_key (X := fun A_ => ∀ (b5 : Nat), A_ #[true, true, true, true, true, true, true, true, true, true, true, true, true, true, false] 1 [(5, vp b5 0), (30, .agg #[vi ((Int.tmod (wi ((at_ b y1.2 : Nat) : Int)) 4)), vi ((wi ((at_ b (wi (y1.2 + 1)) : Nat) : Int)))]), (29, vi ((wi ((at_ b (wi (y1.2 + 1)) : Nat) : Int)))), (28, .int .u8 (((at_ b (wi (y1.2 + 1)) : Nat) : Int))), (27, idx bA (((wi (y1.2 + 1))).toNat)), (23, vi ((Int.tmod (wi ((at_ b y1.2 : Nat) : Int)) 4))), (22, vi ((wi ((at_ b y1.2 : Nat) : Int)))), (21, .int .u8 (((at_ b y1.2 : Nat) : Int))), (20, idx bA ((y1.2).toNat)), (26, vi ((wi (y1.2 + 1)))), (25, vi y1.2), (24, .slice bA b.length bC), (19, vi y1.2), (18, .slice bA b.length bC), (15, .bool (decide (((y1.1.length : Nat) : Int) < 65536))), (14, .bool (decide (((y1.1.length : Nat) : Int) < 65536))), (13, vi (((y1.1.length : Nat) : Int))), (12, .slice g1.1 y1.1.length g1.2), (11, .bool true), (10, .bool (decide ((wi (y1.2 + 1)) < ((b.length : Nat) : Int)))), (9, vi (((b.length : Nat) : Int))), (8, .slice bA b.length bC), (7, vi ((wi (y1.2 + 1)))), (6, vi y1.2), (3, .slice g1.1 y1.1.length g1.2), (4, vi y1.2), (2, .slice none 0 0), (0, .slice bA b.length bC)] (pts b5 0 [zi, zi] :: rowS g1.1 y1.1.length g1.2 2 (y1.1.flatMap EntV.enc) :: [F])) ?_ (fun k15 => ?_)
     ·intro b5
      show AT _ _ _ _ _ _ _ _ _ _
      refine tz 14 rfl (sta 0 m0 m1 t0) ?_
      refine zz ?_
      exact aK b5 () trivial (lc e0 (lc e1 (lc e2 (lc e3 (lc e4 (lc e5 (lc e6 (lc e7 (lc e8 (lc e9 (lc e10 (lc e11 (lc e12 (lc e13 (lc e14 (lc e15 (lc e16 (lc e17 (lc e18 (lc e19 (lc (eU e0) (lc (eU e1) (lc (eU e2) (lc (eU e3) (lc (eU e4) (lc (eU e5) (lc (eU e6) (lc (eU e7) lN)))))))))))))))))))))))))))) Ent.refl
     refine at_key (X := fun A_ => A_ #[true, true, true, true, true, true, true, true, true, true, false, false, false, false, false] 5 [(27, idx bA (((wi (y1.2 + 1))).toNat)), (23, vi ((Int.tmod (wi ((at_ b y1.2 : Nat) : Int)) 4))), (22, vi ((wi ((at_ b y1.2 : Nat) : Int)))), (21, .int .u8 (((at_ b y1.2 : Nat) : Int))), (20, idx bA ((y1.2).toNat)), (26, vi ((wi (y1.2 + 1)))), (25, vi y1.2), (24, .slice bA b.length bC), (19, vi y1.2), (18, .slice bA b.length bC), (15, .bool (decide (((y1.1.length : Nat) : Int) < 65536))), (14, .bool (decide (((y1.1.length : Nat) : Int) < 65536))), (13, vi (((y1.1.length : Nat) : Int))), (12, .slice g1.1 y1.1.length g1.2), (11, .bool true), (10, .bool (decide ((wi (y1.2 + 1)) < ((b.length : Nat) : Int)))), (9, vi (((b.length : Nat) : Int))), (8, .slice bA b.length bC), (7, vi ((wi (y1.2 + 1)))), (6, vi y1.2), (3, .slice g1.1 y1.1.length g1.2), (4, vi y1.2), (2, .slice none 0 0), (0, .slice bA b.length bC)] (rowS g1.1 y1.1.length g1.2 2 (y1.1.flatMap EntV.enc) :: [F])) ?_ (fun k18 => ?_)
     ·show AT _ _ _ _ _ _ _ _ _ _
      refine x2 10 13 ?_ ?_
      ·refine zs rfl (oq_loadD1 (enc := encByte) (sz := 1) (i := ((wi (y1.2 + 1))).toNat) (j := 0) (xs := b) m0 (rd_w hb) (at_get g4) rfl (by omega) (by kernel_rfl)) ?_
       refine zt 11 rfl (op_convI m0 Tryz.underlying5 Tryz.underlying3) ?_
       refine zt 12 rfl (op_build (v := .agg #[vi ((Int.tmod (wi ((at_ b y1.2 : Nat) : Int)) 4)), vi ((wi ((at_ b (wi (y1.2 + 1)) : Nat) : Int)))]) (.cons m3 (.cons m0 .nil)) (fun _ => by kernel_rfl)) ?_
       refine tn 13 rfl (al [zi, zi]) ?_
       rintro b19
       exact at_use (k15 b19) (lc e0 (lc e1 (lc e2 (lc e3 (lc e4 (lc e5 (lc e6 (lc e7 (lc e8 (lc e9 (lc e10 (lc e11 (lc e12 (lc e13 (lc e14 (lc e15 (lc e16 (lc e17 (lc e18 (lc e19 (lc (eU e0) (lc (eU e1) (lc (eU e2) (lc (eU e3) (lc (eU e4) (lc (eU e5) (lc (eU e6) (lc (eU e7) lN)))))))))))))))))))))))))))) Ent.refl
      refine un rfl (al [zi, zi]) ?_
      rintro b20
      refine za 10 rfl (oq_loadD1 (enc := encByte) (sz := 1) (i := ((wi (y1.2 + 1))).toNat) (j := 0) (xs := b) m1 (rd_w hb) (at_get g4) rfl (by omega) (by kernel_rfl)) ?_
      refine zt 11 rfl (op_convI m0 Tryz.underlying5 Tryz.underlying3) ?_
      refine zt 12 rfl (op_build (v := .agg #[vi ((Int.tmod (wi ((at_ b y1.2 : Nat) : Int)) 4)), vi ((wi ((at_ b (wi (y1.2 + 1)) : Nat) : Int)))]) (.cons m4 (.cons m0 .nil)) (fun _ => by kernel_rfl)) ?_
      exact at_use (k15 b20) (lc e3 (lc e0 (lc e1 (lc e2 (lc e4 (lc e5 (lc e6 (lc e7 (lc e8 (lc e9 (lc e10 (lc e11 (lc e12 (lc e13 (lc e14 (lc e15 (lc e16 (lc e17 (lc e18 (lc e19 (lc (eU e0) (lc (eU e1) (lc (eU e2) (lc (eU e3) (lc (eU e4) (lc (eU e5) (lc (eU e6) (lc (eU e7) lN)))))))))))))))))))))))))))) Ent.refl
     refine at_key (X := fun A_ => A_ #[true, true, true, false, false, false, true, true, true, true, true, true, false, false, false] 6 [(29, vi ((wi ((at_ b (wi (y1.2 + 1)) : Nat) : Int)))), (28, .int .u8 (((at_ b (wi (y1.2 + 1)) : Nat) : Int))), (27, idx bA (((wi (y1.2 + 1))).toNat)), (20, idx bA ((y1.2).toNat)), (26, vi ((wi (y1.2 + 1)))), (25, vi y1.2), (24, .slice bA b.length bC), (19, vi y1.2), (18, .slice bA b.length bC), (15, .bool (decide (((y1.1.length : Nat) : Int) < 65536))), (14, .bool (decide (((y1.1.length : Nat) : Int) < 65536))), (13, vi (((y1.1.length : Nat) : Int))), (12, .slice g1.1 y1.1.length g1.2), (11, .bool true), (10, .bool (decide ((wi (y1.2 + 1)) < ((b.length : Nat) : Int)))), (9, vi (((b.length : Nat) : Int))), (8, .slice bA b.length bC), (7, vi ((wi (y1.2 + 1)))), (6, vi y1.2), (3, .slice g1.1 y1.1.length g1.2), (4, vi y1.2), (2, .slice none 0 0), (0, .slice bA b.length bC)] (rowS g1.1 y1.1.length g1.2 2 (y1.1.flatMap EntV.enc) :: [F])) ?_ (fun k22 => ?_)
     ·show AT _ _ _ _ _ _ _ _ _ _
      refine x2 3 13 ?_ ?_
      ·refine zs rfl (oq_loadD1 (enc := encByte) (sz := 1) (i := (y1.2).toNat) (j := 0) (xs := b) m3 (rd_w hb) (at_get g3) rfl (by omega) (by kernel_rfl)) ?_
       refine zt 4 rfl (op_convI m0 Tryz.underlying5 Tryz.underlying3) ?_
       refine zt 5 rfl (op_remI m0 .const (by decide)) ?_
       refine zt 12 rfl (op_build (v := .agg #[vi ((Int.tmod (wi ((at_ b y1.2 : Nat) : Int)) 4)), vi ((wi ((at_ b (wi (y1.2 + 1)) : Nat) : Int)))]) (.cons m0 (.cons m3 .nil)) (fun _ => by kernel_rfl)) ?_
       refine tn 13 rfl (al [zi, zi]) ?_
       rintro b23
       exact at_use (k15 b23) (lc e0 (lc e1 (lc e5 (lc e6 (lc e7 (lc e2 (lc e3 (lc e4 (lc e8 (lc e9 (lc e10 (lc e11 (lc e12 (lc e13 (lc e14 (lc e15 (lc e16 (lc e17 (lc e18 (lc e19 (lc (eU e0) (lc (eU e1) (lc (eU e2) (lc (eU e3) (lc (eU e4) (lc (eU e5) (lc (eU e6) (lc (eU e7) lN)))))))))))))))))))))))))))) Ent.refl
      refine un rfl (al [zi, zi]) ?_
      rintro b24
      refine za 3 rfl (oq_loadD1 (enc := encByte) (sz := 1) (i := (y1.2).toNat) (j := 0) (xs := b) m4 (rd_w hb) (at_get g3) rfl (by omega) (by kernel_rfl)) ?_
      refine zt 4 rfl (op_convI m0 Tryz.underlying5 Tryz.underlying3) ?_
      refine zt 5 rfl (op_remI m0 .const (by decide)) ?_
      refine zt 12 rfl (op_build (v := .agg #[vi ((Int.tmod (wi ((at_ b y1.2 : Nat) : Int)) 4)), vi ((wi ((at_ b (wi (y1.2 + 1)) : Nat) : Int)))]) (.cons m0 (.cons m4 .nil)) (fun _ => by kernel_rfl)) ?_
      exact at_use (k15 b24) (lc e4 (lc e0 (lc e5 (lc e6 (lc e7 (lc e1 (lc e2 (lc e3 (lc e8 (lc e9 (lc e10 (lc e11 (lc e12 (lc e13 (lc e14 (lc e15 (lc e16 (lc e17 (lc e18 (lc e19 (lc (eU e0) (lc (eU e1) (lc (eU e2) (lc (eU e3) (lc (eU e4) (lc (eU e5) (lc (eU e6) (lc (eU e7) lN)))))))))))))))))))))))))))) Ent.refl
     refine at_key (X := fun A_ => A_ #[true, true, true, false, false, false, true, true, true, true, false, false, false, false, false] 8 [(27, idx bA (((wi (y1.2 + 1))).toNat)), (20, idx bA ((y1.2).toNat)), (26, vi ((wi (y1.2 + 1)))), (25, vi y1.2), (24, .slice bA b.length bC), (19, vi y1.2), (18, .slice bA b.length bC), (15, .bool (decide (((y1.1.length : Nat) : Int) < 65536))), (14, .bool (decide (((y1.1.length : Nat) : Int) < 65536))), (13, vi (((y1.1.length : Nat) : Int))), (12, .slice g1.1 y1.1.length g1.2), (11, .bool true), (10, .bool (decide ((wi (y1.2 + 1)) < ((b.length : Nat) : Int)))), (9, vi (((b.length : Nat) : Int))), (8, .slice bA b.length bC), (7, vi ((wi (y1.2 + 1)))), (6, vi y1.2), (3, .slice g1.1 y1.1.length g1.2), (4, vi y1.2), (2, .slice none 0 0), (0, .slice bA b.length bC)] (rowS g1.1 y1.1.length g1.2 2 (y1.1.flatMap EntV.enc) :: [F])) ?_ (fun k25 => ?_)
     ·show AT _ _ _ _ _ _ _ _ _ _
      refine x3 3 10 13 ?_ ?_ ?_
      ·refine zs rfl (oq_loadD1 (enc := encByte) (sz := 1) (i := (y1.2).toNat) (j := 0) (xs := b) m1 (rd_w hb) (at_get g3) rfl (by omega) (by kernel_rfl)) ?_
       refine zt 4 rfl (op_convI m0 Tryz.underlying5 Tryz.underlying3) ?_
       refine zt 5 rfl (op_remI m0 .const (by decide)) ?_
       exact at_use k18 (lc e3 (lc e0 (lc e1 (lc e2 (lc e4 (lc e5 (lc e6 (lc e7 (lc e8 (lc e9 (lc e10 (lc e11 (lc e12 (lc e13 (lc e14 (lc e15 (lc e16 (lc e17 (lc e18 (lc e19 (lc (eU e0) (lc (eU e1) (lc (eU e2) (lc (eU e3) lN)))))))))))))))))))))))) Ent.refl
      ·refine zs rfl (oq_loadD1 (enc := encByte) (sz := 1) (i := ((wi (y1.2 + 1))).toNat) (j := 0) (xs := b) m0 (rd_w hb) (at_get g4) rfl (by omega) (by kernel_rfl)) ?_
       refine zt 11 rfl (op_convI m0 Tryz.underlying5 Tryz.underlying3) ?_
       exact at_use k22 (lc e0 (lc e1 (lc e2 (lc e3 (lc e4 (lc e5 (lc e6 (lc e7 (lc e8 (lc e9 (lc e10 (lc e11 (lc e12 (lc e13 (lc e14 (lc e15 (lc e16 (lc e17 (lc e18 (lc e19 (lc (eU e0) (lc (eU e1) (lc (eU e2) lN))))))))))))))))))))))) Ent.refl
      refine un rfl (al [zi, zi]) ?_
      rintro b26
      refine at_group [3, 4, 5, 10, 11, 12] 1 rfl (by kernel_rfl) rfl ?_
      exact yq (oq_loadD1 (enc := encByte) (sz := 1) (i := (y1.2).toNat) (j := 0) (xs := b) m2 (rd_w hb) (at_get g3) rfl (by omega) (by kernel_rfl)) (yp (op_convI m0 Tryz.underlying5 Tryz.underlying3) (yp (op_remI m0 .const (by decide)) (yq (oq_loadD1 (enc := encByte) (sz := 1) (i := ((wi (y1.2 + 1))).toNat) (j := 0) (xs := b) m4 (rd_w hb) (at_get g4) rfl (by omega) (by kernel_rfl)) (yp (op_convI m0 Tryz.underlying5 Tryz.underlying3) (yp (op_build (v := .agg #[vi ((Int.tmod (wi ((at_ b y1.2 : Nat) : Int)) 4)), vi ((wi ((at_ b (wi (y1.2 + 1)) : Nat) : Int)))]) (.cons m2 (.cons m0 .nil)) (fun _ => by kernel_rfl)) (qN (at_use (k15 b26) (lc e6 (lc e0 (lc e1 (lc e2 (lc e7 (lc e3 (lc e4 (lc e5 (lc e8 (lc e9 (lc e10 (lc e11 (lc e12 (lc e13 (lc e14 (lc e15 (lc e16 (lc e17 (lc e18 (lc e19 (lc (eU e0) (lc (eU e1) (lc (eU e2) (lc (eU e3) (lc (eU e4) (lc (eU e5) (lc (eU e6) (lc (eU e7) lN)))))))))))))))))))))))))))) Ent.refl)))))))
     refine zt 0 rfl (mv m13) ?_
     refine zt 1 rfl (mv m12) ?_
     refine zt 6 rfl (mv m15) ?_
     refine zt 7 rfl (mv m14) ?_
     refine zt 8 rfl (aI m0 .const) ?_
     refine x3 2 9 13 ?_ ?_ ?_
     ·refine zs rfl (oq_indexD (enc := encByte) (sz' := 1) (sz := 1) (xs := b) m4 m3 (rd_w hb) g3 rfl (by kernel_rfl) (Nat.mul_one _)) ?_
      refine x3 3 9 13 ?_ ?_ ?_
      ·refine zs rfl (oq_loadD1 (enc := encByte) (sz := 1) (i := (y1.2).toNat) (j := 0) (xs := b) m0 (rd_w hb) (at_get g3) rfl (by omega) (by kernel_rfl)) ?_
       refine zt 4 rfl (op_convI m0 Tryz.underlying5 Tryz.underlying3) ?_
       refine zt 5 rfl (op_remI m0 .const (by decide)) ?_
       refine x2 9 13 ?_ ?_
       ·refine zs rfl (oq_indexD (enc := encByte) (sz' := 1) (sz := 1) (xs := b) m6 m4 (rd_w hb) g4 rfl (by kernel_rfl) (Nat.mul_one _)) ?_
        exact at_use k18 (lc e0 (lc e1 (lc e2 (lc e3 (lc e4 (lc e5 (lc e6 (lc e7 (lc e8 (lc e9 (lc e10 (lc e11 (lc e12 (lc e13 (lc e14 (lc e15 (lc e16 (lc e17 (lc e18 (lc e19 (lc (eU e0) (lc (eU e1) (lc (eU e2) (lc (eU e3) lN)))))))))))))))))))))))) Ent.refl
       refine un rfl (al [zi, zi]) ?_
       rintro b27
       refine za 9 rfl (oq_indexD (enc := encByte) (sz' := 1) (sz := 1) (xs := b) m7 m5 (rd_w hb) g4 rfl (by kernel_rfl) (Nat.mul_one _)) ?_
       refine za 10 rfl (oq_loadD1 (enc := encByte) (sz := 1) (i := ((wi (y1.2 + 1))).toNat) (j := 0) (xs := b) m0 (rd_w hb) (at_get g4) rfl (by omega) (by kernel_rfl)) ?_
       refine zt 11 rfl (op_convI m0 Tryz.underlying5 Tryz.underlying3) ?_
       refine zt 12 rfl (op_build (v := .agg #[vi ((Int.tmod (wi ((at_ b y1.2 : Nat) : Int)) 4)), vi ((wi ((at_ b (wi (y1.2 + 1)) : Nat) : Int)))]) (.cons m4 (.cons m0 .nil)) (fun _ => by kernel_rfl)) ?_
       exact at_use (k15 b27) (lc e4 (lc e0 (lc e1 (lc e2 (lc e3 (lc e5 (lc e6 (lc e7 (lc e8 (lc e9 (lc e10 (lc e11 (lc e12 (lc e13 (lc e14 (lc e15 (lc e16 (lc e17 (lc e18 (lc e19 (lc (eU e0) (lc (eU e1) (lc (eU e2) (lc (eU e3) (lc (eU e4) (lc (eU e5) (lc (eU e6) (lc (eU e7) lN)))))))))))))))))))))))))))) Ent.refl
      ·refine zs rfl (oq_indexD (enc := encByte) (sz' := 1) (sz := 1) (xs := b) m3 m1 (rd_w hb) g4 rfl (by kernel_rfl) (Nat.mul_one _)) ?_
       exact at_use k25 (lc e0 (lc e1 (lc e2 (lc e3 (lc e4 (lc e5 (lc e6 (lc e7 (lc e8 (lc e9 (lc e10 (lc e11 (lc e12 (lc e13 (lc e14 (lc e15 (lc e16 (lc e17 (lc e18 (lc e19 (lc (eU e0) lN))))))))))))))))))))) Ent.refl
      refine un rfl (al [zi, zi]) ?_
      rintro b28
      refine at_group [3, 4, 5, 9, 10, 11, 12] 1 rfl (by kernel_rfl) rfl ?_
      exact yq (oq_loadD1 (enc := encByte) (sz := 1) (i := (y1.2).toNat) (j := 0) (xs := b) m1 (rd_w hb) (at_get g3) rfl (by omega) (by kernel_rfl)) (yp (op_convI m0 Tryz.underlying5 Tryz.underlying3) (yp (op_remI m0 .const (by decide)) (yq (oq_indexD (enc := encByte) (sz' := 1) (sz := 1) (xs := b) m7 m5 (rd_w hb) g4 rfl (by kernel_rfl) (Nat.mul_one _)) (yq (oq_loadD1 (enc := encByte) (sz := 1) (i := ((wi (y1.2 + 1))).toNat) (j := 0) (xs := b) m0 (rd_w hb) (at_get g4) rfl (by omega) (by kernel_rfl)) (yp (op_convI m0 Tryz.underlying5 Tryz.underlying3) (yp (op_build (v := .agg #[vi ((Int.tmod (wi ((at_ b y1.2 : Nat) : Int)) 4)), vi ((wi ((at_ b (wi (y1.2 + 1)) : Nat) : Int)))]) (.cons m3 (.cons m0 .nil)) (fun _ => by kernel_rfl)) (qN (at_use (k15 b28) (lc e7 (lc e0 (lc e1 (lc e2 (lc e3 (lc e4 (lc e5 (lc e6 (lc e8 (lc e9 (lc e10 (lc e11 (lc e12 (lc e13 (lc e14 (lc e15 (lc e16 (lc e17 (lc e18 (lc e19 (lc (eU e0) (lc (eU e1) (lc (eU e2) (lc (eU e3) (lc (eU e4) (lc (eU e5) (lc (eU e6) (lc (eU e7) lN)))))))))))))))))))))))))))) Ent.refl))))))))
     ·refine zs rfl (oq_indexD (enc := encByte) (sz' := 1) (sz := 1) (xs := b) m2 m0 (rd_w hb) g4 rfl (by kernel_rfl) (Nat.mul_one _)) ?_
      refine x3 2 10 13 ?_ ?_ ?_
      ·refine zs rfl (oq_indexD (enc := encByte) (sz' := 1) (sz := 1) (xs := b) m5 m4 (rd_w hb) g3 rfl (by kernel_rfl) (Nat.mul_one _)) ?_
       exact at_use k25 (lc e1 (lc e0 (lc e2 (lc e3 (lc e4 (lc e5 (lc e6 (lc e7 (lc e8 (lc e9 (lc e10 (lc e11 (lc e12 (lc e13 (lc e14 (lc e15 (lc e16 (lc e17 (lc e18 (lc e19 (lc (eU e0) lN))))))))))))))))))))) Ent.refl
      ·refine zs rfl (oq_loadD1 (enc := encByte) (sz := 1) (i := ((wi (y1.2 + 1))).toNat) (j := 0) (xs := b) m0 (rd_w hb) (at_get g4) rfl (by omega) (by kernel_rfl)) ?_
       refine zt 11 rfl (op_convI m0 Tryz.underlying5 Tryz.underlying3) ?_
       refine x2 2 13 ?_ ?_
       ·refine zs rfl (oq_indexD (enc := encByte) (sz' := 1) (sz := 1) (xs := b) m7 m6 (rd_w hb) g3 rfl (by kernel_rfl) (Nat.mul_one _)) ?_
        exact at_use k22 (lc e1 (lc e2 (lc e3 (lc e0 (lc e4 (lc e5 (lc e6 (lc e7 (lc e8 (lc e9 (lc e10 (lc e11 (lc e12 (lc e13 (lc e14 (lc e15 (lc e16 (lc e17 (lc e18 (lc e19 (lc (eU e0) (lc (eU e1) (lc (eU e2) lN))))))))))))))))))))))) Ent.refl
       refine un rfl (al [zi, zi]) ?_
       rintro b29
       refine za 2 rfl (oq_indexD (enc := encByte) (sz' := 1) (sz := 1) (xs := b) m8 m7 (rd_w hb) g3 rfl (by kernel_rfl) (Nat.mul_one _)) ?_
       refine za 3 rfl (oq_loadD1 (enc := encByte) (sz := 1) (i := (y1.2).toNat) (j := 0) (xs := b) m0 (rd_w hb) (at_get g3) rfl (by omega) (by kernel_rfl)) ?_
       refine zt 4 rfl (op_convI m0 Tryz.underlying5 Tryz.underlying3) ?_
       refine zt 5 rfl (op_remI m0 .const (by decide)) ?_
       refine zt 12 rfl (op_build (v := .agg #[vi ((Int.tmod (wi ((at_ b y1.2 : Nat) : Int)) 4)), vi ((wi ((at_ b (wi (y1.2 + 1)) : Nat) : Int)))]) (.cons m0 (.cons m5 .nil)) (fun _ => by kernel_rfl)) ?_
       exact at_use (k15 b29) (lc e5 (lc e0 (lc e6 (lc e7 (lc e8 (lc e1 (lc e2 (lc e3 (lc e4 (lc e9 (lc e10 (lc e11 (lc e12 (lc e13 (lc e14 (lc e15 (lc e16 (lc e17 (lc e18 (lc e19 (lc (eU e0) (lc (eU e1) (lc (eU e2) (lc (eU e3) (lc (eU e4) (lc (eU e5) (lc (eU e6) (lc (eU e7) lN)))))))))))))))))))))))))))) Ent.refl
      refine un rfl (al [zi, zi]) ?_
      rintro b30
      refine at_group [2, 3, 4, 5, 10, 11, 12] 1 rfl (by kernel_rfl) rfl ?_
      exact yq (oq_indexD (enc := encByte) (sz' := 1) (sz := 1) (xs := b) m6 m5 (rd_w hb) g3 rfl (by kernel_rfl) (Nat.mul_one _)) (yq (oq_loadD1 (enc := encByte) (sz := 1) (i := (y1.2).toNat) (j := 0) (xs := b) m0 (rd_w hb) (at_get g3) rfl (by omega) (by kernel_rfl)) (yp (op_convI m0 Tryz.underlying5 Tryz.underlying3) (yp (op_remI m0 .const (by decide)) (yq (oq_loadD1 (enc := encByte) (sz := 1) (i := ((wi (y1.2 + 1))).toNat) (j := 0) (xs := b) m5 (rd_w hb) (at_get g4) rfl (by omega) (by kernel_rfl)) (yp (op_convI m0 Tryz.underlying5 Tryz.underlying3) (yp (op_build (v := .agg #[vi ((Int.tmod (wi ((at_ b y1.2 : Nat) : Int)) 4)), vi ((wi ((at_ b (wi (y1.2 + 1)) : Nat) : Int)))]) (.cons m2 (.cons m0 .nil)) (fun _ => by kernel_rfl)) (qN (at_use (k15 b30) (lc e7 (lc e0 (lc e1 (lc e2 (lc e8 (lc e3 (lc e4 (lc e5 (lc e6 (lc e9 (lc e10 (lc e11 (lc e12 (lc e13 (lc e14 (lc e15 (lc e16 (lc e17 (lc e18 (lc e19 (lc (eU e0) (lc (eU e1) (lc (eU e2) (lc (eU e3) (lc (eU e4) (lc (eU e5) (lc (eU e6) (lc (eU e7) lN)))))))))))))))))))))))))))) Ent.refl))))))))
     refine un rfl (al [zi, zi]) ?_
     rintro b31
     refine at_group [2, 3, 4, 5, 9, 10, 11, 12] 1 rfl (by kernel_rfl) rfl ?_
     exact yq (oq_indexD (enc := encByte) (sz' := 1) (sz := 1) (xs := b) m5 m4 (rd_w hb) g3 rfl (by kernel_rfl) (Nat.mul_one _)) (yq (oq_loadD1 (enc := encByte) (sz := 1) (i := (y1.2).toNat) (j := 0) (xs := b) m0 (rd_w hb) (at_get g3) rfl (by omega) (by kernel_rfl)) (yp (op_convI m0 Tryz.underlying5 Tryz.underlying3) (yp (op_remI m0 .const (by decide)) (yq (oq_indexD (enc := encByte) (sz' := 1) (sz := 1) (xs := b) m7 m5 (rd_w hb) g4 rfl (by kernel_rfl) (Nat.mul_one _)) (yq (oq_loadD1 (enc := encByte) (sz := 1) (i := ((wi (y1.2 + 1))).toNat) (j := 0) (xs := b) m0 (rd_w hb) (at_get g4) rfl (by omega) (by kernel_rfl)) (yp (op_convI m0 Tryz.underlying5 Tryz.underlying3) (yp (op_build (v := .agg #[vi ((Int.tmod (wi ((at_ b y1.2 : Nat) : Int)) 4)), vi ((wi ((at_ b (wi (y1.2 + 1)) : Nat) : Int)))]) (.cons m3 (.cons m0 .nil)) (fun _ => by kernel_rfl)) (qN (at_use (k15 b31) (lc e8 (lc e0 (lc e1 (lc e2 (lc e3 (lc e4 (lc e5 (lc e6 (lc e7 (lc e9 (lc e10 (lc e11 (lc e12 (lc e13 (lc e14 (lc e15 (lc e16 (lc e17 (lc e18 (lc e19 (lc (eU e0) (lc (eU e1) (lc (eU e2) (lc (eU e3) (lc (eU e4) (lc (eU e5) (lc (eU e6) (lc (eU e7) lN)))))))))))))))))))))))))))) Ent.refl)))))))))
    refine cS (q2 (zp (fd 0 0 m0) (zq (ld 0 0 m0 e0 rfl) (zp (eqL m0 .const) (zp (mv m0) (rt_case t0 t0 (fun h32 => ?_) (fun h32 => ?_)))))))
    ·replace hz1 := ip h32 hz1
     refine zk rfl rfl e0 (zk rfl rfl e1 (zk rfl rfl e2 (zp (op_pick (b := true) m3 .const) (q1 (ct_true m0 ?_)))))
     refine cR (zp (fd 1 1 m8) (rz (st1 0 w1 m0 .const t0) (q1 (cR (zp (mv (mU m13)) (zq (lda 0 m10 e0) (rn (ot_buildSlice (T' := 78) (us := [vi ((Int.tmod (wi ((at_ b y1.2 : Nat) : Int)) 4)), zi]) (.cons m0 .nil) (fun _ => by kernel_rfl)) ?_)))))))
     rintro b33
     obtain ⟨g35, hz1⟩ := gO hz1
     refine rn (ot_append (by_ := 16) (z := .agg #[zi, zi]) m2 m0 (p2 (p0 .nil)) Tryz.underlying33 (infoB_of (by kernel_rfl)) rfl (by decide) rfl rfl (by decide) (by unfold maxLen; omega) (by omega)) ?_
     rintro ⟨A34, c34⟩
     refine rE (ent_flatx (ys := [(⟨(Int.tmod (wi ((at_ b y1.2 : Nat) : Int)) 4), 0⟩ : EntV)]) rfl) ?_
     rw [show (y1.1.length + 1) = (y1.1 ++ [(⟨(Int.tmod (wi ((at_ b y1.2 : Nat) : Int)) 4), 0⟩ : EntV)]).length from (List.length_append (bs := [(⟨(Int.tmod (wi ((at_ b y1.2 : Nat) : Int)) 4), 0⟩ : EntV)])).symm]
     exact zo (asg m0) (pickU pick17) (rN (tB (tT (cR (zp (mv (mU m18)) (zp (aI m0 .const) (zo (asg m0) (pickU (pickU pick0)) (rN (aK ((y1.1 ++ [(⟨(Int.tmod (wi ((at_ b y1.2 : Nat) : Int)) 4), 0⟩ : EntV)]), (wi (y1.2 + 2))) ((A34 : Option Addr), c34) hz1 (lc e3 (lc e0 (lc (eU (eU e1)) (lc (eU (eU e2)) lN)))) (d1 (eP (p1 pn))))))))))))
    replace hz1 := im h32 hz1
    refine zw (fd 0 0 m4).q rfl rfl e0 (zw (ld 0 0 m0 e0 rfl) rfl rfl e1 (zw (eqL m0 .const).q rfl rfl e2 (zp (op_pick (b := false) m3 m0) (q1 (ci hz1 m0 (fun h36 hz1 => ?_) (fun h36 hz1 => ?_))))))
    ·refine cR (zp (fd 1 1 m8) (rz (st1 0 w1 m0 .const t0) (q1 (cR (zp (mv (mU m13)) (zq (lda 0 m10 e0) (rn (ot_buildSlice (T' := 78) (us := [vi ((Int.tmod (wi ((at_ b y1.2 : Nat) : Int)) 4)), zi]) (.cons m0 .nil) (fun _ => by kernel_rfl)) ?_)))))))
     rintro b37
     obtain ⟨g39, hz1⟩ := gO hz1
     refine rn (ot_append (by_ := 16) (z := .agg #[zi, zi]) m2 m0 (p2 (p0 .nil)) Tryz.underlying33 (infoB_of (by kernel_rfl)) rfl (by decide) rfl rfl (by decide) (by unfold maxLen; omega) (by omega)) ?_
     rintro ⟨A38, c38⟩
     refine rE (ent_flatx (ys := [(⟨(Int.tmod (wi ((at_ b y1.2 : Nat) : Int)) 4), 0⟩ : EntV)]) rfl) ?_
     rw [show (y1.1.length + 1) = (y1.1 ++ [(⟨(Int.tmod (wi ((at_ b y1.2 : Nat) : Int)) 4), 0⟩ : EntV)]).length from (List.length_append (bs := [(⟨(Int.tmod (wi ((at_ b y1.2 : Nat) : Int)) 4), 0⟩ : EntV)])).symm]
     exact zo (asg m0) (pickU pick17) (rN (tB (tT (cR (zp (mv (mU m18)) (zp (aI m0 .const) (zo (asg m0) (pickU (pickU pick0)) (rN (aK ((y1.1 ++ [(⟨(Int.tmod (wi ((at_ b y1.2 : Nat) : Int)) 4), 0⟩ : EntV)]), (wi (y1.2 + 2))) ((A38 : Option Addr), c38) hz1 (lc e3 (lc e0 (lc (eU (eU e1)) (lc (eU (eU e2)) lN)))) (d1 (eP (p1 pn))))))))))))
    refine cK (tT (cR (zp (mv (mU m12)) (zq (lda 0 m9 e0) (rn (ot_buildSlice (T' := 78) (us := [vi ((Int.tmod (wi ((at_ b y1.2 : Nat) : Int)) 4)), vi ((wi ((at_ b (wi (y1.2 + 1)) : Nat) : Int)))]) (.cons m0 .nil) (fun _ => by kernel_rfl)) ?_)))))
    rintro b40
    obtain ⟨g42, hz1⟩ := gO hz1
    refine rn (ot_append (by_ := 16) (z := .agg #[zi, zi]) m2 m0 (p2 (p0 .nil)) Tryz.underlying33 (infoB_of (by kernel_rfl)) rfl (by decide) rfl rfl (by decide) (by unfold maxLen; omega) (by omega)) ?_
    rintro ⟨A41, c41⟩
    refine rE (ent_flatx (ys := [(⟨(Int.tmod (wi ((at_ b y1.2 : Nat) : Int)) 4), (wi ((at_ b (wi (y1.2 + 1)) : Nat) : Int))⟩ : EntV)]) rfl) ?_
    rw [show (y1.1.length + 1) = (y1.1 ++ [(⟨(Int.tmod (wi ((at_ b y1.2 : Nat) : Int)) 4), (wi ((at_ b (wi (y1.2 + 1)) : Nat) : Int))⟩ : EntV)]).length from (List.length_append (bs := [(⟨(Int.tmod (wi ((at_ b y1.2 : Nat) : Int)) 4), (wi ((at_ b (wi (y1.2 + 1)) : Nat) : Int))⟩ : EntV)])).symm]
    exact zo (asg m0) (pickU pick16) (rN (tB (tT (cR (zp (mv (mU m17)) (zp (aI m0 .const) (zo (asg m0) (pickU pick19) (rN (aK ((y1.1 ++ [(⟨(Int.tmod (wi ((at_ b y1.2 : Nat) : Int)) 4), (wi ((at_ b (wi (y1.2 + 1)) : Nat) : Int))⟩ : EntV)]), (wi (y1.2 + 2))) ((A41 : Option Addr), c41) hz1 (lc e3 (lc e0 (lc (eU (eU e0)) (lc (eU (eU e1)) lN)))) (d1 (eP (p1 pn))))))))))))
   refine cX (tX (tX (bH ?_)))
   obtain rfl := sI hz1
   exact aK (y1.1, y1.2) ((g1.1 : Option Addr), g1.2) rfl (lc e10 (lc e12 lN)) Ent.refl
  replace hz1 := im h1 hz1
  refine zk rfl rfl e0 (zk rfl rfl e1 (zk rfl rfl e2 (zp (op_pick (b := false) m3 .const) (q1 (ct_false m0 ?_)))))
  refine cX (tX (tX (bH ?_)))
  obtain rfl := sI hz1
  exact aK (y1.1, y1.2) ((g1.1 : Option Addr), g1.2) rfl (lc e10 (lc e12 lN)) Ent.refl
 subst hy1
 refine q2 (zp (mv m0) (zo (asg m0) pick2 (q4 ?_)))
 obtain rfl := sI hs
 exact et_fn (vs := [.slice g1.1 z1.1.length g1.2]) ((g1.1 : Option Addr), g1.2) rfl (.cons e0 .nil) rfl Ent.refl
def kscript_s (b : List Nat) (n : Int) : Option ((List EntV)) :=
 (r4decode_s b).bind fun r1 =>
 if n < ((r1.length : Nat) : Int) then
  if 0 ≤ n ∧ n ≤ (r1.length : Int) then
  some (r1.take (n).toNat)
  else none
 else
 some r1
theorem kscript_ok {b : List Nat} {n : Int} {o : (List EntV)} (hs : kscript_s b n = some o) (bA : Option Addr) (bC : Nat)  (B : Nat) (W : World) (hb : Sl encByte 1 W B bA b) : Fn_ Tryz.prog 12 #[.slice bA b.length bC, vi n] B W [] (X := Option Addr × Nat) (fun x => .slice x.1 o.length x.2) (fun x => [rowS x.1 o.length x.2 2 (o.flatMap EntV.enc)]) := by
 unfold kscript_s at hs
 refine fe2 Tryz.func12 16 rfl (fun F => ?_)
 refine q2 (zp (asg .const) (q3 (zp (mv m1) ?_)))
 obtain ⟨r1, hr1, hs⟩ := bO_of hs
 refine rn (co (.cons m0 .nil) (r4decode_ok hr1 bA bC _ _ hb) pn) ?_
 rintro ⟨A2, c2⟩
 refine zp (asg m0) (q1 (cS (q2 (zp (mv m0) (zp (op_len m0 Tryz.underlying33) (zp (mv m7) (zp (op_gtr m1 m0) (q1 (ci hs m0 (fun h3 hs => ?_) (fun h3 hs => ?_))))))))))
 ·refine cR (zp (mv m4) (zp (mv m10) ?_))
  obtain ⟨g4, hs⟩ := gO hs
  refine rt_fact (fun _ hw => row_cap hw.2.2 e0) (fun hc5 => ?_)
  refine rE (row_take (enc := EntV.enc) (sz := 2) (xs := r1) (k := (n).toNat) (n := (r1.take (n).toNat).length) (fun _ => rfl) rfl (by omega) (by simp; omega)) (zp (op_sliceH (xs := r1) m1 Tryz.underlying33 (by kernel_rfl : _ = 2) (by omega) m0 g4 hc5) (zo (asg m0) pick7 (q3 (zp (mv m0) (zo (asg m0) pick11 (q4 ?_))))))
  obtain rfl := sI hs
  exact et_fn (vs := [.slice A2 ((r1.take (n).toNat).length) c2]) ((A2 : Option Addr), c2) rfl (.cons e0 .nil) rfl Ent.refl
 refine cK (tT (q2 (zp (mv m4) (zo (asg m0) pick8 (q4 ?_)))))
 obtain rfl := sI hs
 exact et_fn (vs := [.slice A2 r1.length c2]) ((A2 : Option Addr), c2) rfl (.cons e0 .nil) rfl Ent.refl
def koffers_l1 (c : Cfg) : Nat → (List EntV) × Int → Option ((List EntV) × Int)
 | 0, _ => none
 | k + 1, y1 =>
  if y1.2 < (wi (40 * ((c.subs.length : Nat) : Int))) then
   if (((y1.1.length + 1 : Nat)) : Int) < 100000000000 then
   koffers_l1 c k ((y1.1 ++ [(kpick_s c.workers)]), (wi (y1.2 + 1)))
   else none
  else
  some (y1.1, y1.2)
def koffers_s (c : Cfg) : Option ((List EntV)) :=
 (koffers_l1 c ((40 * c.subs.length) + 1) ([], 0)).bind fun z1 =>
 some z1.1
theorem koffers_ok {o : (List EntV)} (hs : koffers_s c = some o) (l : CfgAt)  (B : Nat) (W : World)  : Fn_ Tryz.prog 11 #[.agg #[vi c.workers, vi c.levels, vi c.classes, vi c.tasks, vi c.deque, vi c.heap, vi c.batch, vi c.age, vi c.patience, .slice l.pa c.progs.length l.pc, .slice l.sa c.subs.length l.sc]] B W [] (X := Option Addr × Nat) (fun x => .slice x.1 o.length x.2) (fun x => [rowS x.1 o.length x.2 2 (o.flatMap EntV.enc)]) := by
 unfold koffers_s at hs
 refine fe1 Tryz.func11 20 rfl (fun F => ?_)
 refine q2 (rn (ot_box m0 (us := [vi c.workers, vi c.levels, vi c.classes, vi c.tasks, vi c.deque, vi c.heap, vi c.batch, vi c.age, vi c.patience, .slice l.pa c.progs.length l.pc, .slice l.sa c.subs.length l.sc]) rfl) ?_)
 rintro b1
 refine zp (asg .const) (q3 (zp (asg .const) (q1 (cS (q2 (zp (asg .const) (q1 (cE (ent_niln (sz := 2) (enc := EntV.enc)) ?_))))))))
 obtain ⟨z1, hz1, hs⟩ := bO_of hs
 refine ct_cutG (S := (List EntV) × Int) (G := Option Addr × Nat) (fun zw => z1 = zw) (fun z1 g1 => [(3, .slice g1.1 z1.1.length g1.2), (2, .slice none 0 0)]) (fun z1 g1 => rowS g1.1 z1.1.length g1.2 2 (z1.1.flatMap EntV.enc) :: cP b1 c l :: [F]) ?_ (fun z1w g1 hy1 => (?_ : CT _ _ _ _ _ _ _ _ _))
 ·refine cB (ct_loopK (S := (List EntV) × Int) (G := Option Addr × Nat) (fun k y1 => koffers_l1 c k y1 = some z1) (fun _ h => by rw [koffers_l1] at h; cases h) (fun y1 g1 => [(3, .slice g1.1 y1.1.length g1.2), (4, vi y1.2), (2, .slice none 0 0), (1, vp b1 0)]) (fun y1 g1 => rowS g1.1 y1.1.length g1.2 2 (y1.1.flatMap EntV.enc) :: cP b1 c l :: [F]) ((40 * c.subs.length) + 1) ([], 0) ((none : Option Addr), 0) hz1 (lc e1 (lc e0 (lc e2 (lc e3 .nil)))) Ent.refl (fun k1 y1 g1 hz => ?_))
  clear hz1
  have hz1 := hz; clear hz
  rw [koffers_l1] at hz1
  refine cS (q2 (zp (mv m1) (zp (fd 10 10 m4) (zq (ld 0 10 m0 e1 rfl) (zp (op_len m0 Tryz.underlying26) (zp (op_mulI .const m0) (zp (op_lss m4 m0) (q1 (ci hz1 m0 (fun h2 hz1 => ?_) (fun h2 hz1 => ?_))))))))))
  ·refine cK (tT (cS (cB (cR (zp (mv m6) (zp (fd 0 0 m10) (zq (ld 0 0 m0 e1 rfl) (zq (cq (.cons m0 .nil) (kpick_ok (o := kpick_s c.workers) rfl  _ _) pn) (rn (ot_buildSlice (T' := 78) (us := [vi ((kpick_s c.workers).kind), vi ((kpick_s c.workers).value)]) (.cons m0 .nil) (fun _ => by kernel_rfl)) ?_)))))))))
   rintro b3
   obtain ⟨g5, hz1⟩ := gO hz1
   refine rn (ot_append (by_ := 16) (z := .agg #[zi, zi]) m4 m0 (p1 (p0 .nil)) Tryz.underlying33 (infoB_of (by kernel_rfl)) rfl (by decide) rfl rfl (by decide) (by unfold maxLen; omega) (by omega)) ?_
   rintro ⟨A4, c4⟩
   refine rE (ent_flatx (ys := [(kpick_s c.workers)]) rfl) ?_
   rw [show (y1.1.length + 1) = (y1.1 ++ [(kpick_s c.workers)]).length from (List.length_append (bs := [(kpick_s c.workers)])).symm]
   exact zo (asg m0) pick12 (rN (tB (tT (cR (zp (mv m13) (zp (aI m0 .const) (zo (asg m0) pick15 (rN (aK ((y1.1 ++ [(kpick_s c.workers)]), (wi (y1.2 + 1))) ((A4 : Option Addr), c4) hz1 (lc e3 (lc e0 (lc e16 (lc e17 lN)))) Ent.refl)))))))))
  refine cX (tX (tX (bH ?_)))
  obtain rfl := sI hz1
  exact aK (y1.1, y1.2) ((g1.1 : Option Addr), g1.2) rfl (lc e6 (lc e8 lN)) Ent.refl
 subst hy1
 refine q2 (zp (mv m0) (zo (asg m0) pick2 (q4 ?_)))
 obtain rfl := sI hs
 exact et_fn (vs := [.slice g1.1 z1.1.length g1.2]) ((g1.1 : Option Addr), g1.2) rfl (.cons e0 .nil) rfl (d1 (eP (p1 pn)))
def kround_l2 (raw : List Int) (at0 : Int) (machines : Int) : Nat → (List EntV) × Int → Option ((List EntV) × Int)
 | 0, _ => none
 | k + 1, y2 =>
  if 0 < y2.2 then
   (knumber_s raw (wi ((wi (at0 + machines)) + y2.2)) machines).bind fun r10 =>
   (knumber_s raw (wi (at0 + y2.2)) (wi (((y2.1.length : Nat) : Int) + 1))).bind fun r11 =>
   (kinsert_s y2.1 (kpick_s r10) r11).bind fun r12 =>
   kround_l2 raw at0 machines k (r12, (wi (y2.2 - 1)))
  else
  some (y2.1, y2.2)
def kround_l1 (raw : List Int) (at0 : Int) (machines : Int) : Nat → (List EntV) × Int → Option ((List EntV) × Int)
 | 0, _ => none
 | k + 1, y1 =>
  if y1.2 < machines then
   (knumber_s raw (wi (at0 + y1.2)) (wi (y1.2 + 1))).bind fun r2 =>
   (kinsert_s y1.1 (kpick_s y1.2) r2).bind fun r3 =>
   kround_l1 raw at0 machines k (r3, (wi (y1.2 + 1)))
  else
  some (y1.1, y1.2)
def kround_s (raw : List Int) (at0 : Int) (machines : Int) : Option ((List EntV)) :=
 (kround_l1 raw at0 machines (machines.toNat + 1) ([], 0)).bind fun z1 =>
 (knumber_s raw (wi (at0 + machines)) (wi (machines + 1))).bind fun r5 =>
 (kinsert_s z1.1 (⟨1, 0⟩ : EntV) r5).bind fun r6 =>
 (knumber_s raw (wi ((wi (at0 + machines)) + 1)) 3).bind fun r8 =>
 (kround_l2 raw at0 machines 4 (r6, r8)).bind fun z2 =>
 some z2.1
theorem kround_ok {raw : List Int} {at0 : Int} {machines : Int} {o : (List EntV)} (hs : kround_s raw at0 machines = some o) (rawA : Option Addr) (rawC : Nat)  (B : Nat) (W : World) (hraw : Sl encInt 1 W B rawA raw) : Fn_ Tryz.prog 13 #[.slice rawA raw.length rawC, vi at0, vi machines] B W [] (X := Option Addr × Nat) (fun x => .slice x.1 o.length x.2) (fun x => [rowS x.1 o.length x.2 2 (o.flatMap EntV.enc)]) := by
 unfold kround_s at hs
 refine fe3 Tryz.func13 66 rfl (fun F => ?_)
 refine q2 (zp (asg .const) (q3 (zp (asg .const) (q1 (cS (q2 (zp (asg .const) (q1 (cE (ent_niln (sz := 2) (enc := EntV.enc)) ?_)))))))))
 obtain ⟨z1, hz1, hs⟩ := bO_of hs
 refine ct_cutG (S := (List EntV) × Int) (G := Option Addr × Nat) (fun zw => z1 = zw) (fun z1 g1 => [(7, .slice g1.1 z1.1.length g1.2), (6, .slice none 0 0), (0, .slice rawA raw.length rawC), (1, vi at0), (2, vi machines)]) (fun z1 g1 => rowS g1.1 z1.1.length g1.2 2 (z1.1.flatMap EntV.enc) :: [F]) ?_ (fun z1w g1 hy1 => (?_ : CT _ _ _ _ _ _ _ _ _))
 ·refine cB (ct_loopK (S := (List EntV) × Int) (G := Option Addr × Nat) (fun k y1 => kround_l1 raw at0 machines k y1 = some z1) (fun _ h => by rw [kround_l1] at h; cases h) (fun y1 g1 => [(7, .slice g1.1 y1.1.length g1.2), (8, vi y1.2), (6, .slice none 0 0), (0, .slice rawA raw.length rawC), (1, vi at0), (2, vi machines)]) (fun y1 g1 => rowS g1.1 y1.1.length g1.2 2 (y1.1.flatMap EntV.enc) :: [F]) (machines.toNat + 1) ([], 0) ((none : Option Addr), 0) hz1 (lc e1 (lc e0 (lc e2 (lc e3 (lc e4 (lc e5 .nil)))))) Ent.refl (fun k1 y1 g1 hz => ?_))
  clear hz1
  have hz1 := hz; clear hz
  rw [kround_l1] at hz1
  refine cS (q2 (zp (mv m1) (zp (mv m6) (zp (op_lss m1 m0) (q1 (ci hz1 m0 (fun h1 hz1 => ?_) (fun h1 hz1 => ?_)))))))
  ·refine cK (tT (cS (cB (cR (zp (mv m3) (zp (mv m5) (zq (cq (.cons m0 .nil) (kpick_ok (o := kpick_s y1.2) rfl  _ _) pn) (zp (mv m9) (zp (mv m11) (zp (mv m9) (zp (aI m1 m0) (zp (mv m11) (zp (aI m0 .const) ?_)))))))))))))
   obtain ⟨r2, hr2, hz1⟩ := bO_of hz1
   refine zq (cq (.cons m5 (.cons m2 (.cons m0 .nil))) (knumber_ok hr2 rawA rawC _ _ hraw) pn) (rt_se (ro_of_row (enc := EntV.enc) (sz := 2) (by decide) (fun _ => rfl) rfl) ?_)
   obtain ⟨r3, hr3, hz1⟩ := bO_of hz1
   refine rn (co (.cons m9 (.cons m7 (.cons m0 .nil))) (kinsert_ok hr3 g1.1 g1.2 _ _) (p0 pn)) ?_
   rintro ⟨A4, c4⟩
   exact zo (asg m0) pick14 (rN (tB (tT (cR (zp (mv m15) (zp (aI m0 .const) (zo (asg m0) pick17 (rN (aK (r3, (wi (y1.2 + 1))) ((A4 : Option Addr), c4) hz1 (lc e3 (lc e0 (lc e18 (lc e19 (lc (eU e0) (lc (eU e1) lN)))))) (d1 (eP (p1 pn))))))))))))
  refine cX (tX (tX (bH ?_)))
  obtain rfl := sI hz1
  exact aK (y1.1, y1.2) ((g1.1 : Option Addr), g1.2) rfl (lc e3 (lc e5 (lc e6 (lc e7 (lc e8 lN))))) Ent.refl
 subst hy1
 refine q2 (zp (mv m0) (zp (op_build (v := .agg #[vi 1, zi]) (.cons .const .nil) (fun _ => by kernel_rfl)) (zp (mv m4) (zp (mv m6) (zp (mv m8) (zp (aI m1 m0) (zp (mv m10) (zp (aI m0 .const) ?_))))))))
 obtain ⟨r5, hr5, hs⟩ := bO_of hs
 refine zq (cq (.cons m5 (.cons m2 (.cons m0 .nil))) (knumber_ok hr5 rawA rawC _ _ hraw) pn) (rt_se (ro_of_row (enc := EntV.enc) (sz := 2) (by decide) (fun _ => rfl) rfl) ?_)
 obtain ⟨r6, hr6, hs⟩ := bO_of hs
 refine rn (co (.cons m8 (.cons m7 (.cons m0 .nil))) (kinsert_ok hr6 g1.1 g1.2 _ _) (p0 pn)) ?_
 rintro ⟨A7, c7⟩
 refine zo (asg m0) pick10 (q1 (cS (q2 (zp (mv m12) (zp (mv m14) (zp (mv m16) (zp (aI m1 m0) (zp (aI m0 .const) ?_))))))))
 obtain ⟨r8, hr8, hs⟩ := bO_of hs
 refine zq (cq (.cons m4 (.cons m0 (.cons .const .nil))) (knumber_ok hr8 rawA rawC _ _ hraw) pn) (zp (asg m0) (q1 ?_))
 obtain ⟨z2, hz2, hs⟩ := bO_of hs
 refine ct_cutG (S := (List EntV) × Int) (G := Option Addr × Nat) (fun zw => z2 = zw) (fun z2 g2 => [(7, .slice g2.1 z2.1.length g2.2), (6, .slice none 0 0)]) (fun z2 g2 => rowS g2.1 z2.1.length g2.2 2 (z2.1.flatMap EntV.enc) :: roS EntV.enc 2 g1.1 g1.2 z1.1 :: [F]) ?_ (fun z2w g2 hy2 => (?_ : CT _ _ _ _ _ _ _ _ _))
 ·refine cB (ct_loopK (S := (List EntV) × Int) (G := Option Addr × Nat) (fun k y2 => kround_l2 raw at0 machines k y2 = some z2) (fun _ h => by rw [kround_l2] at h; cases h) (fun y2 g2 => [(7, .slice g2.1 y2.1.length g2.2), (9, vi y2.2), (6, .slice none 0 0), (0, .slice rawA raw.length rawC), (1, vi at0), (2, vi machines)]) (fun y2 g2 => rowS g2.1 y2.1.length g2.2 2 (y2.1.flatMap EntV.enc) :: roS EntV.enc 2 g1.1 g1.2 z1.1 :: [F]) 4 (r6, r8) ((A7 : Option Addr), c7) hz2 (lc e7 (lc e0 (lc e18 (lc e19 (lc (eU e0) (lc (eU e1) .nil)))))) Ent.refl (fun k2 y2 g2 hz => ?_))
  clear hz2
  have hz2 := hz; clear hz
  rw [kround_l2] at hz2
  refine cS (q2 (zp (mv m1) (zp (op_gtr m0 .const) (q1 (ci hz2 m0 (fun h9 hz2 => ?_) (fun h9 hz2 => ?_))))))
  ·refine cK (tT (cS (cB (cR (zp (mv m2) (zp (mv m6) (zp (mv m8) (zp (mv m10) (zp (aI m1 m0) (zp (mv m8) (zp (aI m1 m0) (zp (mv m14) ?_))))))))))))
   obtain ⟨r10, hr10, hz2⟩ := bO_of hz2
   refine zq (cq (.cons m6 (.cons m1 (.cons m0 .nil))) (knumber_ok hr10 rawA rawC _ _ hraw) pn) (zq (cq (.cons m0 .nil) (kpick_ok (o := kpick_s r10) rfl  _ _) pn) (zp (mv m15) (zp (mv m17) (zp (mv m15) (zp (aI m1 m0) (zp (mv m16) (zp (op_len m0 Tryz.underlying33) (zp (aI m0 .const) ?_))))))))
   obtain ⟨r11, hr11, hz2⟩ := bO_of hz2
   refine zq (cq (.cons m6 (.cons m3 (.cons m0 .nil))) (knumber_ok hr11 rawA rawC _ _ hraw) pn) (rt_se (ro_of_row (enc := EntV.enc) (sz := 2) (by decide) (fun _ => rfl) rfl) ?_)
   obtain ⟨r12, hr12, hz2⟩ := bO_of hz2
   refine rn (co (.cons m17 (.cons m8 (.cons m0 .nil))) (kinsert_ok hr12 g2.1 g2.2 _ _) (p0 pn)) ?_
   rintro ⟨A13, c13⟩
   exact zo (asg m0) (pickU pick1) (rN (tB (tT (cR (zp (mv (mU m2)) (zp (op_subI m0 .const) (zo (asg m0) (pickU pick4) (rN (aK (r12, (wi (y2.2 - 1))) ((A13 : Option Addr), c13) hz2 (lc e3 (lc e0 (lc (eU e5) (lc (eU e6) (lc (eU e7) (lc (eU e8) lN)))))) (d1 (eP (p1 pn))))))))))))
  refine cX (tX (tX (bH ?_)))
  obtain rfl := sI hz2
  exact aK (y2.1, y2.2) ((g2.1 : Option Addr), g2.2) rfl (lc e2 (lc e4 lN)) Ent.refl
 subst hy2
 refine q2 (zp (mv m0) (zo (asg m0) pick2 (q4 ?_)))
 obtain rfl := sI hs
 exact et_fn (vs := [.slice g2.1 z2.1.length g2.2]) ((g2.1 : Option Addr), g2.2) rfl (.cons e0 .nil) rfl (d1 (eP (p1 pn)))
end
section
open Go Go.RowKit
@[reducible] def ptrV (b : Nat) : Value := .pointer (some ⟨b, 0, none⟩)
def machAll : List Nat → List MaV → List SProp
  | b :: bs, m :: ms => machS b m :: machAll bs ms
  | _, _ => []
def msN (A : Option Addr) (c : Nat) (ms : List MaV) : List Nat → List SProp := fun bs => rowS A ms.length c 1 (bs.map ptrV) :: machAll bs ms
def msS (A : Option Addr) (c : Nat) (ms : List MaV) : SProp := exL (msN A c ms)
/-- The machines but for one. -/
def holeN (A : Option Addr) (c b : Nat) (ms : List MaV) (i : Nat) : List Nat → SProp := fun bs h => bs[i]? = some b ∧ star (rowS A ms.length c 1 (bs.map ptrV) :: (machAll (bs.take i) (ms.take i) ++ machAll (bs.drop (i + 1)) (ms.drop (i + 1)))) h
def holeM (A : Option Addr) (c b : Nat) (ms : List MaV) (i : Nat) : SProp := fun h => ∃ bs, holeN A c b ms i bs h
def stpN (b o : Nat) (l : List Int) : Option Addr × Nat → List SProp := fun p => [pts b o [.slice p.1 l.length p.2], rowS p.1 l.length p.2 1 (l.map (Value.int .i64))]
def stpS (b o : Nat) (l : List Int) : SProp := exL (stpN b o l)
theorem machAll_at : ∀ (bs : List Nat) (ms : List MaV) (i b : Nat) (m : MaV), bs.length = ms.length → bs[i]? = some b → ms[i]? = some m → (machAll bs ms).Perm (machS b m :: (machAll (bs.take i) (ms.take i) ++ machAll (bs.drop (i + 1)) (ms.drop (i + 1))))
  | [], _, i, b, m, _, h, _ => by cases h
  | _ :: _, [], i, b, m, h, _, _ => by cases h
  | b0 :: bs, m0 :: ms, 0, b, m, _, hb, hm => by
    simp at hb hm; subst hb hm; simp [machAll]
  | b0 :: bs, m0 :: ms, i + 1, b, m, hl, hb, hm => by
    have h := machAll_at bs ms i b m (by simpa using hl) (by simpa using hb) (by simpa using hm)
    simp only [machAll, List.take_succ_cons, List.drop_succ_cons, List.cons_append]
    exact (h.cons _).trans (List.Perm.swap ..)
theorem machAll_app : ∀ (bs bs' : List Nat) (ms ms' : List MaV), bs.length = ms.length → machAll (bs ++ bs') (ms ++ ms') = machAll bs ms ++ machAll bs' ms'
  | [], _, [], _, _ => rfl
  | _ :: _, _, [], _, h => by cases h
  | [], _, _ :: _, _, h => by cases h
  | b :: bs, bs', m :: ms, ms', h => by
    simp only [List.cons_append, machAll, machAll_app bs bs' ms ms' (by simpa using h)]
section
variable {r : Option Nat} {P : Program} {ops : Array Oper} {Q : Exit → Act → World → Prop} {n B : Nat} {W : World} {R R' : RList} {L L' M : List SProp} {v : Value} {x y z : Operand}
  {d : Option Tmp} {ty : TypeId} {ps : String} {af : Array Edge} {g : Option (Nat × Bool)} {T T' : TypeId} {A : Option Addr} {c i b : Nat} {ms : List MaV}
theorem stp_shut {b o k : Nat} {l : List Int} (hk : l.length = k) : Ent (pts b o [.slice A k c] :: rowS A k c 1 (l.map (Value.int .i64)) :: L) (stpS b o l :: L) := by
  subst hk; exact shut (N := stpN b o l) (A, c) rfl
theorem ms_focus {w : World} (s : Sat B w (msS A c ms :: L)) (hi : i < ms.length) : ∃ b, Sat B w (machS b ms[i] :: holeM A c b ms i :: L) := by
  obtain ⟨h, H, k1, k2, a, e, ⟨bs, k3, k4, a', e', hr, hm⟩, hL⟩ := s
  have hlen : bs.length = ms.length := by have := hr.1; simpa using this
  have hb : bs[i]? = some bs[i] := List.getElem?_eq_getElem (by omega)
  obtain ⟨q1, q2, a2, e2, s1, s2⟩ := star_perm (machAll_at bs ms i bs[i] ms[i] hlen hb (List.getElem?_eq_getElem hi)) hm
  refine ⟨bs[i], h, H, ?_⟩
  subst e' e2
  have b1 := (apart_join2 a').1 a
  have b2 := apart_comm ((apart_join2 a2).1 (apart_comm a')).1
  have b3 := apart_comm ((apart_join2 a2).1 (apart_comm a')).2
  have c1 := (apart_join2 a2).1 b1.2
  refine ⟨q1, join (join k3 q2) k2, ?_, ?_, s1, join k3 q2, k2, (apart_join2 b3).2 ⟨b1.1, c1.2⟩, rfl, ⟨bs, hb, k3, q2, b3, rfl, hr, s2⟩, hL⟩
  · exact apart_comm ((apart_join2 ((apart_join2 b3).2 ⟨b1.1, c1.2⟩)).2 ⟨(apart_join2 b3).2 ⟨b2, apart_comm a2⟩, apart_comm c1.1⟩)
  · rw [e]
    rw [← join_assoc, ← join_assoc]
    congr 1
    rw [← join_assoc, join_comm b2]
theorem at_focusM {listed : Array Bool} {q : Nat} (i : Nat) (p : Pick L (msS A c ms) M) (hi : i < ms.length) (k : ∀ b, AT P ops Q n B W listed q R (machS b ms[i] :: holeM A c b ms i :: M)) : AT P ops Q n B W listed q R L := fun a w s => by
  obtain ⟨b, hs⟩ := ms_focus (s.sat.perm p.perm) hi
  exact k b a w ⟨s.regs, s.below, s.lo, hs⟩
theorem st_focusM {listed : Array Bool} {q j : Nat} (i : Nat) (p : Pick L (msS A c ms) M) (hi : i < ms.length) (k : ∀ b, ST P ops Q n B W listed q R (machS b ms[i] :: holeM A c b ms i :: M) j) : ST P ops Q n B W listed q R L j := fun a w s => by
  obtain ⟨b, hs⟩ := ms_focus (s.sat.perm p.perm) hi
  exact k b a w ⟨s.regs, s.below, s.lo, hs⟩
theorem unfocusM {i : Int} {m : MaV} (hi : i.toNat < ms.length) : Ent (machS b m :: holeM A c b ms i.toNat :: L) (msS A c (st_ ms i m) :: L) := fun h s => by
  obtain ⟨k1, k2, a, e, hA, k3, k4, a', e', ⟨bs, hb, k5, k6, a'', e'', hr, hs⟩, hL⟩ := s
  subst e' e''
  have hlen : bs.length = ms.length := by have := hr.1; simpa using this
  have a1 := (apart_join2 a').1 (apart_comm a)
  have a2 := (apart_join2 a'').1 a1.1
  have a3 := (apart_join2 a'').1 a'
  have am : apart k1 k6 := apart_comm a2.2
  refine ⟨join k5 (join k1 k6), k4, (apart_join2 (apart_comm ((apart_join2 am).2 ⟨apart_comm a2.1, apart_comm a''⟩))).2 ⟨a3.1, (apart_join2 am).2 ⟨apart_comm a1.2, a3.2⟩⟩, ?_, ⟨bs, k5, join k1 k6, apart_comm ((apart_join2 am).2 ⟨apart_comm a2.1, apart_comm a''⟩), rfl, ?_, ?_⟩, hL⟩
  · rw [e, ← join_assoc, ← join_assoc, ← join_assoc, join_comm (apart_comm a2.1)]
  · simpa [st_] using hr
  · have hp := machAll_at bs (st_ ms i m) i.toNat b m (by simpa [st_] using hlen) hb (by simp [st_, hi])
    refine star_perm hp.symm ⟨k1, k6, am, rfl, hA, ?_⟩
    have e1 : (st_ ms i m).take i.toNat = ms.take i.toNat := by unfold st_; rw [List.take_set_of_le (Nat.le_refl _)]
    have e2 : (st_ ms i m).drop (i.toNat + 1) = ms.drop (i.toNat + 1) := by unfold st_; rw [List.drop_set_of_lt (by omega)]
    rw [e1, e2]; exact hs
theorem hole_sat {w : World} (s : Sat B w L) (h : holeM A c b ms i ∈ L) : ∃ p o, A = some ⟨p, o, none⟩ ∧ w.cell? ⟨p, o + i, none⟩ = some (ptrV b) := by
  obtain ⟨l', pk⟩ := Pick.of_mem h
  obtain ⟨k, H, k1, k2, a, e, ⟨bs, hb, k3, k4, a', e', hr, hs⟩, hL⟩ := s.perm pk.perm
  have s1 : Sat B w (rowS A ms.length c 1 (bs.map ptrV) :: []) := ⟨k3, fun b o x hx => H b o x (by rw [e, e']; unfold join; simp only [hx]), k3, fun _ _ => none, fun _ _ => .inr (.inl rfl), by funext x y; unfold join; cases k3 x y <;> rfl, hr, trivial⟩
  obtain ⟨h1, h2, h3, h4⟩ := sat_rowS s1 (List.mem_cons_self ..)
  have hv : (bs.map ptrV)[i]? = some (ptrV b) := by rw [List.getElem?_map, hb]; rfl
  have hlt := (List.getElem?_eq_some_iff.1 hv).1
  rcases h4 with ⟨_, h4⟩ | ⟨q, o, rfl, hc⟩
  · omega
  · exact ⟨q, o, rfl, hc i _ hv⟩
theorem oq_indexM {k : IntKind} {len cap : Nat} {j : Int} (hx : EvalR R x (.slice A len cap)) (hy : EvalR R y (.int k j)) (hL : holeM A c b ms j.toNat ∈ L) (hj : 0 ≤ j ∧ j < (len : Int)) (hs : elemSize P T = some 1) : OQ P n B W ⟨d, .indexAddr T x y, ty, ps, af, g⟩ R L (idx A j.toNat) := oq_run fun a w s => by
  obtain ⟨p, o, rfl, _⟩ := hole_sat s.sat hL
  have := idx_run (P := P) (w := w) (T := T) (d := d) (ty := ty) (ps := ps) (af := af) (g := g) (hx.eval s.regs) (hy.eval s.regs) (i := j.toNat) (by omega) (by omega) hs
  rw [Nat.mul_one] at this; exact this
theorem oq_loadM (hx : EvalR R x (idx A i)) (hL : holeM A c b ms i ∈ L) (hT : aggSize P T = some none) : OQ P n B W ⟨d, .load T x, ty, ps, af, g⟩ R L (ptrV b) := oq_run fun a w s => by
  obtain ⟨p, o, rfl, hc⟩ := hole_sat s.sat hL
  simp only [execOp, hx.eval s.regs, idx, Option.map_some]
  rw [run_bind_ok (load_run (us := [ptrV b]) hT rfl (fun j u hj => by
    cases j with
    | zero => simp at hj; subst hj; exact hc
    | succ j => simp at hj) rfl)]
  rfl
theorem ms_nil : Ent L (msS none 0 [] :: L) := (ent_nil 1).trans (shut (N := msN none 0 []) [] rfl)
/-- append of a machine that was made. -/
theorem ot_appendM {b' k m by_ : Nat} {E : TypeId} {zz : Value} {mv : MaV} (hx : EvalR R x (.slice A m c)) (hy : EvalR R y (.slice (some ⟨b', 0, none⟩) 1 k)) (hL : Picks L [msS A c ms, pts b' 0 [ptrV b], machS b mv] M)
    (hm : ms.length = m) (hT : P.underlying T = some (.slice E)) (hI : infoB P E zz 1 by_) (hz : zz.cells.size = 1) (hlen : m + 1 ≤ maxLen) (hby : (m + 1) * by_ ≤ 140737488355328) :
    OT P n B W ⟨d, .call ⟨.builtin .append, #[x, y], #[T, T]⟩, ty, ps, af, g⟩ R L (X := Option Addr × Nat) (fun p => .slice p.1 (m + 1) p.2) (fun p => msS p.1 p.2 (ms ++ [mv]) :: M) := fun a w s => by
  subst hm
  obtain ⟨h, H, k1, k2, ap, e, ⟨bs, hs⟩, hL2⟩ := s.sat.perm hL.perm
  have s0 : star ((rowS A ms.length c 1 (bs.map ptrV) :: machAll bs ms) ++ (pts b' 0 [ptrV b] :: machS b mv :: M)) h := star_append.2 ⟨k1, k2, ap, e, hs, hL2⟩
  have hlen' : bs.length = ms.length := by
    obtain ⟨q1, q2, _, _, hr, _⟩ := hs
    have := hr.1; simpa using this
  have s1 : Sat B w (rowS A ms.length c 1 (bs.map ptrV) :: pts b' 0 [ptrV b] :: (machAll bs ms ++ machS b mv :: M)) := ⟨h, H, star_perm (List.Perm.cons _ List.perm_middle) s0⟩
  obtain ⟨A2, cap2, w', hr, hc⟩ := append_sat (ty := ty) (c := k) (W := W) hT hI hz (by omega) s1 s.below s.lo (k := 1) rfl rfl (by omega) hlen hby
  have : (execOp a.eval ⟨d, .call ⟨.builtin .append, #[x, y], #[T, T]⟩, ty, ps, af, g⟩).run P w = .ok (.value (.slice A2 (ms.length + 1) cap2)) w' := by
    simp only [execOp, resolve, List.map_toArray, List.map_cons, List.map_nil, hx.eval s.regs, hy.eval s.regs]
    simp only [invoke, builtin]
    simp [hr]
  rw [this]
  refine ⟨(A2, cap2), rfl, hc.1, hc.2.1, hc.2.2.imp fun h hh => ?_⟩
  have h1 : star (rowS A2 (ms.length + 1) cap2 1 (bs.map ptrV ++ [ptrV b]) :: (machAll bs ms ++ machS b mv :: M)) h := star_tail (fun _ hh => Ent.drop _ hh) hh
  have e1 : bs.map ptrV ++ [ptrV b] = (bs ++ [b]).map ptrV := by simp
  have e2 : machAll (bs ++ [b]) (ms ++ [mv]) = machAll bs ms ++ [machS b mv] := machAll_app bs [b] ms [mv] hlen'
  rw [e1] at h1
  have h2 : star ((rowS A2 (ms ++ [mv]).length cap2 1 ((bs ++ [b]).map ptrV) :: machAll (bs ++ [b]) (ms ++ [mv])) ++ M) h := by
    rw [e2]
    have : (ms ++ [mv]).length = ms.length + 1 := by simp
    rw [this]; simpa using h1
  obtain ⟨q1, q2, a', e', p1, p2⟩ := star_append.1 h2
  exact ⟨q1, q2, a', e', ⟨bs ++ [b], p1⟩, p2⟩
theorem rd_row {α : Type} {enc : α → List Value} {sz m : Nat} {xs : List α} (hsz : 0 < sz) (henc : ∀ x, (enc x).length = sz) (h : rowS A m c sz (xs.flatMap enc) ∈ L) (hm : xs.length = m) : RdL B W L enc sz A xs := fun w hw =>
  rowS_sl h hw.2.2 hm hsz (by obtain ⟨r1, r2, r3, _⟩ := sat_rowS hw.2.2 h; unfold maxLen at r3; omega) fun i x hx j u hu => flat_get henc xs i x hx j u hu
end
end
end Go.Proofs.YtpbkelpokpglaaaGreat
