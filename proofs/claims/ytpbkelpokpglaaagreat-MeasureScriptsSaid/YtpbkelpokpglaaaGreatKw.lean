/- The reference, function by function: an entry. The reference, function by function: entries; the stamped events. The reference's engine, as it is made: how what was built is seen. No program occurs here. The reference, function by function: a new engine. -/
import Derived.Test.YtpbkelpokpglaaaGreatKv
import Derived.Test.YtpbkelpokpglaaaGreatKu
import Derived.Test.YtpbkelpokpglaaaGreatKk
import Derived.Test.YtpbkelpokpglaaaGreatRows
import Derived.Test.YtpbkelpokpglaaaGreatKm
set_option linter.all false
namespace Go.Proofs.YtpbkelpokpglaaaGreat
section
open Go Go.RowKit
set_option maxRecDepth 100000
set_option maxHeartbeats 2000000
variable {c : Cfg} {m : MemV} {now draw : Int} {recs : List RecV} {evs : List Ev} {f : FrV}
def x28do_l3 (entries : Int) (z1 : Int × (List Ev) × MemV × (List MaV) × Int × (List RecV)) : Nat → (List Int) → Option ((List Int))
 | 0, _ => none
 | k + 1, y3 =>
  if ((y3.length : Nat) : Int) < ((z1.2.1.length : Nat) : Int) then
   if (((y3.length + 1 : Nat)) : Int) < 1000000000000 then
   x28do_l3 entries z1 k (y3 ++ [entries])
   else none
  else
  some y3
def x28do_b2 (m : MemV) (z1 : Int × (List Ev) × MemV × (List MaV) × Int × (List RecV)) : Option (AccV) :=
 if m.count < z1.2.2.1.count then
  some z1.2.2.1.last
 else
 some (⟨0, 0, 0, 0⟩ : AccV)
def x28do_b1 (c : Cfg) (m : MemV) (now : Int) (draw : Int) (recs : List RecV) (evs : List Ev) (ms : List MaV) (v : EntV) : Option (Int × (List Ev) × MemV × (List MaV) × Int × (List RecV)) :=
 if v.kind = 0 then
  (r2draw_s v.value ((ms.length : Nat) : Int)).bind fun r4 =>
  if 0 ≤ r4 ∧ r4 < (ms.length : Int) then
  (r8step_s (at_ ms r4) c m now draw recs evs).bind fun r6 =>
  some (draw, r6.2.2.2.2, r6.2.2.1, (st_ ms r4 r6.2.1), now, r6.2.2.2.1)
  else none
 else
 if v.kind = 1 then
  some (draw, evs, m, ms, (wi (now + 1)), recs)
 else
 if v.kind = 2 then
  some (v.value, evs, m, ms, now, recs)
 else
 some (draw, evs, m, ms, now, recs)
def x28do_s (c : Cfg) (m : MemV) (now : Int) (draw : Int) (recs : List RecV) (evs : List Ev) (ms : List MaV) (entries : Int) (stamps : List Int) (last : AccV) (v : EntV) : Option (MemV × Int × Int × (List RecV) × (List Ev) × (List MaV) × Int × (List Int) × AccV) :=
 (x28do_b1 c m now draw recs evs ms v).bind fun z1 =>
 (x28do_b2 m z1).bind fun z2 =>
 (x28do_l3 entries z1 1000000 stamps).bind fun z3 =>
 some (z1.2.2.1, z1.2.2.2.2.1, z1.1, z1.2.2.2.2.2, z1.2.1, z1.2.2.2.1, (wi (entries + 1)), z3, z2)
theorem x28do_ok {ms : List MaV} {entries : Int} {stamps : List Int} {last : AccV} {v : EntV} {o : MemV × Int × Int × (List RecV) × (List Ev) × (List MaV) × Int × (List Int) × AccV} (hs : x28do_s c m now draw recs evs ms entries stamps last v = some o) (xb eb : Nat) (l : CfgAt) (pl : List (Option Addr × Nat)) (RA : Option Addr) (RC : Nat) (MA : Option Addr) (MC : Nat)  (B : Nat) (W : World)  : Fn_ Tryz.prog 27 #[vp xb 0, .agg #[vi v.kind, vi v.value]] B W [cP eb c l, cfgL c l pl, memS eb 11 m, pts eb 17 [vi now], pts eb 18 [vi draw], pts eb 19 [.slice RA recs.length RC], recsS RA RC recs, evsS eb 20 evs, pts xb 0 [vp eb 0], pts xb 1 [.slice MA ms.length MC], msS MA MC ms, pts xb 2 [vi entries], stpS xb 3 stamps, pts xb 4 [vi last.kind, vi last.cell, vu last.old, vu last.new]] (X := Unit) (fun x => .tuple #[]) (fun x => [cP eb c l, cfgL c l pl, memS eb 11 o.1, pts eb 17 [vi o.2.1], pts eb 18 [vi o.2.2.1], pts eb 19 [.slice RA o.2.2.2.1.length RC], recsS RA RC o.2.2.2.1, evsS eb 20 o.2.2.2.2.1, pts xb 0 [vp eb 0], pts xb 1 [.slice MA o.2.2.2.2.2.1.length MC], msS MA MC o.2.2.2.2.2.1, pts xb 2 [vi o.2.2.2.2.2.2.1], stpS xb 3 o.2.2.2.2.2.2.2.1, pts xb 4 [vi o.2.2.2.2.2.2.2.2.kind, vi o.2.2.2.2.2.2.2.2.cell, vu o.2.2.2.2.2.2.2.2.old, vu o.2.2.2.2.2.2.2.2.new]]) := by
 unfold x28do_s at hs
 refine fe2 Tryz.func27 117 rfl (fun F => ?_)
 refine q2 (rn (ot_box m1 (us := [vi v.kind, vi v.value]) rfl) ?_)
 rintro b1
 refine q3 (zp (mv m1) (zp (nc m0) (zp (fd 0 0 m0) (zq (ld 0 0 m0 e9 rfl) (zp (nc m0) (zp (fd 11 11 m0) (zp (fd 5 16 m0) (rt_open pick3 ?_))))))))
 rintro ⟨A2, c2⟩
 refine zq (ld 11 5 m0 e0 rfl) (zp (asg m0) (q1 (cS (q2 (zp (fd 0 0 m9) (zq (ld 0 0 m0 e2 rfl) (q1 (cE (mem_shut (m := m) rfl) ?_))))))))
 obtain ⟨z1, hz1, hs⟩ := bO_of hs
 refine ct_cutG (S := Int × (List Ev) × MemV × (List MaV) × Int × (List RecV)) (G := Unit) (fun zw => z1 = zw) (fun z1 _ => [(4, vi m.count), (0, vp xb 0)]) (fun z1 _ => memS eb 11 z1.2.2.1 :: pts b1 0 [vi v.kind, vi v.value] :: cP eb c l :: cfgL c l pl :: pts eb 17 [vi z1.2.2.2.2.1] :: pts eb 18 [vi z1.1] :: pts eb 19 [.slice RA z1.2.2.2.2.2.length RC] :: recsS RA RC z1.2.2.2.2.2 :: evsS eb 20 z1.2.1 :: pts xb 0 [vp eb 0] :: pts xb 1 [.slice MA z1.2.2.2.1.length MC] :: msS MA MC z1.2.2.2.1 :: pts xb 2 [vi entries] :: stpS xb 3 stamps :: pts xb 4 [vi last.kind, vi last.cell, vu last.old, vu last.new] :: [F]) ?_ (fun z1w _ hy1 => (?_ : CT _ _ _ _ _ _ _ _ _))
 ·unfold x28do_b1 at hz1
  refine cB (q2 (zp (eqL m0 .const) (zp (asg m0) (q1 (ci hz1 m0 (fun h3 hz1 => ?_) (fun h3 hz1 => ?_))))))
  ·obtain ⟨r4, hr4, hz1⟩ := bO_of hz1
   obtain ⟨g5, hz1⟩ := gO hz1
   obtain ⟨r6, hr6, hz1⟩ := bO_of hz1
   refine ct_cutY (S := Nat) (G := Unit) (fun _ => True) (fun b7 _ => [(4, vi m.count), (0, vp xb 0)]) (fun b7 _ => machS b7 r6.2.1 :: cP eb c l :: cfgL c l pl :: memS eb 11 r6.2.2.1 :: pts eb 17 [vi now] :: pts eb 18 [vi draw] :: pts eb 19 [.slice RA r6.2.2.2.1.length RC] :: recsS RA RC r6.2.2.2.1 :: evsS eb 20 r6.2.2.2.2 :: holeM MA MC b7 ms (r4).toNat :: pts b1 0 [vi v.kind, vi v.value] :: pts xb 0 [vp eb 0] :: pts xb 1 [.slice MA ms.length MC] :: pts xb 2 [vi entries] :: stpS xb 3 stamps :: pts xb 4 [vi last.kind, vi last.cell, vu last.old, vu last.new] :: [F]) ?_ (fun b7 _ _ => (?_ : ET _ _ _ _ .normal _ _))
   ·refine ca 19 ?_
    refine at_key (X := fun A_ => A_ #[true, true, true, true, true, true, true, true, true, true, true, true, false, false, true, true, true, true, false] 3 [(34, vp eb 0), (28, vi r4), (20, .slice MA ms.length MC), (4, vi m.count), (0, vp xb 0)] (memS eb 11 m :: pts b1 0 [vi v.kind, vi v.value] :: cP eb c l :: cfgL c l pl :: pts eb 17 [vi now] :: pts eb 18 [vi draw] :: pts eb 19 [.slice RA recs.length RC] :: recsS RA RC recs :: evsS eb 20 evs :: pts xb 0 [vp eb 0] :: pts xb 1 [.slice MA ms.length MC] :: msS MA MC ms :: pts xb 2 [vi entries] :: stpS xb 3 stamps :: pts xb 4 [vi last.kind, vi last.cell, vu last.old, vu last.new] :: [F])) ?_ (fun k10 => ?_)
    ·show AT _ _ _ _ _ _ _ _ _ _
     refine at_focusM (r4).toNat pick11 (by omega) (fun b11 => ?_)
     rw [at_eq (by omega)]
     refine za 12 rfl (oq_indexM m2 m1 e1 g5 (by kernel_rfl)) ?_
     refine za 13 rfl (oq_loadM m0 e1 (by kernel_rfl)) ?_
     refine tu 18 rfl (co (.cons m0 (.cons m2 .nil)) (r8step_ok hr6 b11 eb l pl RA RC _ _) (p0 (p3 (p3 (p1 (p2 (p2 (p2 (p2 (p2 pn)))))))))) ?_
     refine zz ?_
     exact aK b11 () trivial (lc e6 (lc e7 lN)) Ent.refl
    refine at_key (X := fun A_ => A_ #[true, true, true, true, true, true, true, true, true, true, true, true, false, false, true, true, true, false, false] 4 [(28, vi r4), (20, .slice MA ms.length MC), (33, vp xb 0), (4, vi m.count), (0, vp xb 0)] (memS eb 11 m :: pts b1 0 [vi v.kind, vi v.value] :: cP eb c l :: cfgL c l pl :: pts eb 17 [vi now] :: pts eb 18 [vi draw] :: pts eb 19 [.slice RA recs.length RC] :: recsS RA RC recs :: evsS eb 20 evs :: pts xb 0 [vp eb 0] :: pts xb 1 [.slice MA ms.length MC] :: msS MA MC ms :: pts xb 2 [vi entries] :: stpS xb 3 stamps :: pts xb 4 [vi last.kind, vi last.cell, vu last.old, vu last.new] :: [F])) ?_ (fun k12 => ?_)
    ·show AT _ _ _ _ _ _ _ _ _ _
     refine x2 12 17 ?_ ?_
     ·refine st_focusM (r4).toNat pick11 (by omega) (fun b13 => ?_)
      rw [at_eq (by omega)]
      refine zs rfl (oq_indexM m1 m0 e1 g5 (by kernel_rfl)) ?_
      refine at_group [13, 17] 1 rfl (by kernel_rfl) rfl ?_
      refine yq (oq_loadM m0 e1 (by kernel_rfl)) (yq (ld 0 0 m4 e11 rfl) (qN (tu 18 rfl (co (.cons m1 (.cons m0 .nil)) (r8step_ok hr6 b13 eb l pl RA RC _ _) (p0 (p3 (p3 (p1 (p2 (p2 (p2 (p2 (p2 pn)))))))))) ?_)))
      refine zz ?_
      exact aK b13 () trivial (lc e7 (lc e8 lN)) Ent.refl
     refine zs rfl (ld 0 0 m2 e9 rfl) ?_
     exact at_use k10 (lc e0 (lc e1 (lc e2 (lc e4 (lc e5 lN))))) Ent.refl
    refine at_key (X := fun A_ => A_ #[true, true, true, true, true, true, true, true, true, true, true, false, false, false, true, true, true, false, false] 5 [(27, vi (((ms.length : Nat) : Int))), (22, vi v.value), (20, .slice MA ms.length MC), (33, vp xb 0), (4, vi m.count), (0, vp xb 0)] (memS eb 11 m :: pts b1 0 [vi v.kind, vi v.value] :: cP eb c l :: cfgL c l pl :: pts eb 17 [vi now] :: pts eb 18 [vi draw] :: pts eb 19 [.slice RA recs.length RC] :: recsS RA RC recs :: evsS eb 20 evs :: pts xb 0 [vp eb 0] :: pts xb 1 [.slice MA ms.length MC] :: msS MA MC ms :: pts xb 2 [vi entries] :: stpS xb 3 stamps :: pts xb 4 [vi last.kind, vi last.cell, vu last.old, vu last.new] :: [F])) ?_ (fun k15 => ?_)
    ·show AT _ _ _ _ _ _ _ _ _ _
     refine x2 11 17 ?_ ?_
     ·refine zs rfl (cq (.cons m1 (.cons m0 .nil)) (r2draw_ok hr4  _ _) pn) ?_
      exact at_use k12 (lc e0 (lc e3 (lc e4 (lc e5 (lc e6 lN))))) Ent.refl
     refine zs rfl (ld 0 0 m3 e9 rfl) ?_
     refine za 11 rfl (cq (.cons m2 (.cons m1 .nil)) (r2draw_ok hr4  _ _) pn) ?_
     exact at_use k10 (lc e1 (lc e0 (lc e4 (lc e6 (lc e7 lN))))) Ent.refl
    refine at_key (X := fun A_ => A_ #[true, true, true, false, true, true, true, true, true, true, true, false, false, false, true, true, true, false, false] 6 [(27, vi (((ms.length : Nat) : Int))), (22, vi v.value), (33, vp xb 0), (19, vp xb 1), (4, vi m.count), (0, vp xb 0)] (memS eb 11 m :: pts b1 0 [vi v.kind, vi v.value] :: cP eb c l :: cfgL c l pl :: pts eb 17 [vi now] :: pts eb 18 [vi draw] :: pts eb 19 [.slice RA recs.length RC] :: recsS RA RC recs :: evsS eb 20 evs :: pts xb 0 [vp eb 0] :: pts xb 1 [.slice MA ms.length MC] :: msS MA MC ms :: pts xb 2 [vi entries] :: stpS xb 3 stamps :: pts xb 4 [vi last.kind, vi last.cell, vu last.old, vu last.new] :: [F])) ?_ (fun k17 => ?_)
    ·show AT _ _ _ _ _ _ _ _ _ _
     refine x3 3 11 17 ?_ ?_ ?_
     ·refine zs rfl (ld 1 0 m3 e10 rfl) ?_
      exact at_use k15 (lc e1 (lc e2 (lc e0 (lc e3 (lc e5 (lc e6 lN)))))) Ent.refl
     ·refine zs rfl (cq (.cons m1 (.cons m0 .nil)) (r2draw_ok hr4  _ _) pn) ?_
      refine x2 3 17 ?_ ?_
      ·refine zs rfl (ld 1 0 m4 e10 rfl) ?_
       exact at_use k12 (lc e1 (lc e0 (lc e4 (lc e6 (lc e7 lN))))) Ent.refl
      refine zs rfl (ld 0 0 m3 e9 rfl) ?_
      refine za 3 rfl (ld 1 0 m5 e10 rfl) ?_
      exact at_use k10 (lc e1 (lc e2 (lc e0 (lc e7 (lc e8 lN))))) Ent.refl
     refine zs rfl (ld 0 0 m2 e9 rfl) ?_
     refine at_group [3, 11] 3 rfl (by kernel_rfl) rfl ?_
     exact yq (ld 1 0 m4 e10 rfl) (yq (cq (.cons m3 (.cons m2 .nil)) (r2draw_ok hr4  _ _) pn) (qN (at_use k10 (lc e2 (lc e0 (lc e1 (lc e7 (lc e8 lN))))) Ent.refl)))
    refine zt 0 rfl (mv m14) ?_
    refine zt 1 rfl (nc m0) ?_
    refine zt 2 rfl (fd 1 1 m0) ?_
    refine zt 4 rfl (fd 1 1 m16) ?_
    refine zt 6 rfl (mv m18) ?_
    refine zt 7 rfl (nc m0) ?_
    refine zt 8 rfl (fd 1 1 m0) ?_
    refine zt 14 rfl (mv (mU m1)) ?_
    refine zt 15 rfl (nc m0) ?_
    refine zt 16 rfl (fd 0 0 m0) ?_
    refine at_each (H := [3, 5, 9, 17]) (by kernel_rfl) rfl (each_cons ?_ (each_cons ?_ (each_cons ?_ (each_cons ?_ each_nil))))
    ·refine zs rfl (ld 1 0 m7 e10 rfl) ?_
     refine x3 5 9 17 ?_ ?_ ?_
     ·refine zs rfl (ld 0 1 m7 e1 rfl) ?_
      refine x2 9 17 ?_ ?_
      ·refine zs rfl (ld 1 0 m5 e10 rfl) ?_
       refine zt 10 rfl (op_len m0 Tryz.underlying60) ?_
       exact at_use k15 (lc e0 (lc e2 (lc e3 (lc e4 (lc e18 (lc (eU e8) lN)))))) Ent.refl
      refine zs rfl (ld 0 0 m2 e9 rfl) ?_
      refine za 9 rfl (ld 1 0 m6 e10 rfl) ?_
      refine zt 10 rfl (op_len m0 Tryz.underlying60) ?_
      refine za 11 rfl (cq (.cons m3 (.cons m0 .nil)) (r2draw_ok hr4  _ _) pn) ?_
      exact at_use k10 (lc e3 (lc e0 (lc e5 (lc (eU e0) (lc (eU e10) lN))))) Ent.refl
     ·refine zs rfl (ld 1 0 m4 e10 rfl) ?_
      refine zt 10 rfl (op_len m0 Tryz.underlying60) ?_
      refine x2 5 17 ?_ ?_
      ·refine zs rfl (ld 0 1 m9 e1 rfl) ?_
       exact at_use k15 (lc e1 (lc e0 (lc e3 (lc e4 (lc e18 (lc (eU e8) lN)))))) Ent.refl
      refine zs rfl (ld 0 0 m3 e9 rfl) ?_
      refine za 5 rfl (ld 0 1 m10 e1 rfl) ?_
      refine za 11 rfl (cq (.cons m0 (.cons m2 .nil)) (r2draw_ok hr4  _ _) pn) ?_
      exact at_use k10 (lc e2 (lc e0 (lc e5 (lc (eU e0) (lc (eU e10) lN))))) Ent.refl
     refine zs rfl (ld 0 0 m1 e9 rfl) ?_
     refine at_group [5, 9, 10, 11] 3 rfl (by kernel_rfl) rfl ?_
     exact yq (ld 0 1 m8 e1 rfl) (yq (ld 1 0 m6 e10 rfl) (yp (op_len m0 Tryz.underlying60) (yq (cq (.cons m2 (.cons m0 .nil)) (r2draw_ok hr4  _ _) pn) (qN (at_use k10 (lc e4 (lc e0 (lc e5 (lc (eU e0) (lc (eU e10) lN))))) Ent.refl)))))
    ·refine zs rfl (ld 0 1 m6 e1 rfl) ?_
     refine x3 3 9 17 ?_ ?_ ?_
     ·refine zs rfl (ld 1 0 m8 e10 rfl) ?_
      refine x2 9 17 ?_ ?_
      ·refine zs rfl (ld 1 0 m5 e10 rfl) ?_
       refine zt 10 rfl (op_len m0 Tryz.underlying60) ?_
       exact at_use k15 (lc e0 (lc e3 (lc e2 (lc e4 (lc e18 (lc (eU e8) lN)))))) Ent.refl
      refine zs rfl (ld 0 0 m2 e9 rfl) ?_
      refine za 9 rfl (ld 1 0 m6 e10 rfl) ?_
      refine zt 10 rfl (op_len m0 Tryz.underlying60) ?_
      refine za 11 rfl (cq (.cons m4 (.cons m0 .nil)) (r2draw_ok hr4  _ _) pn) ?_
      exact at_use k10 (lc e3 (lc e0 (lc e4 (lc (eU e0) (lc (eU e10) lN))))) Ent.refl
     ·refine zs rfl (ld 1 0 m4 e10 rfl) ?_
      refine zt 10 rfl (op_len m0 Tryz.underlying60) ?_
      exact at_use k17 (lc e0 (lc e2 (lc e3 (lc e10 (lc e17 (lc (eU e7) lN)))))) Ent.refl
     refine zs rfl (ld 0 0 m1 e9 rfl) ?_
     refine at_group [3, 9, 10, 11] 3 rfl (by kernel_rfl) rfl ?_
     exact yq (ld 1 0 m9 e10 rfl) (yq (ld 1 0 m6 e10 rfl) (yp (op_len m0 Tryz.underlying60) (yq (cq (.cons m4 (.cons m0 .nil)) (r2draw_ok hr4  _ _) pn) (qN (at_use k10 (lc e4 (lc e0 (lc e3 (lc (eU e0) (lc (eU e10) lN))))) Ent.refl)))))
    ·refine zs rfl (ld 1 0 m3 e10 rfl) ?_
     refine zt 10 rfl (op_len m0 Tryz.underlying60) ?_
     refine x3 3 5 17 ?_ ?_ ?_
     ·refine zs rfl (ld 1 0 m9 e10 rfl) ?_
      refine x2 5 17 ?_ ?_
      ·refine zs rfl (ld 0 1 m9 e1 rfl) ?_
       exact at_use k15 (lc e2 (lc e0 (lc e1 (lc e4 (lc e18 (lc (eU e8) lN)))))) Ent.refl
      refine zs rfl (ld 0 0 m3 e9 rfl) ?_
      refine za 5 rfl (ld 0 1 m10 e1 rfl) ?_
      refine za 11 rfl (cq (.cons m0 (.cons m3 .nil)) (r2draw_ok hr4  _ _) pn) ?_
      exact at_use k10 (lc e2 (lc e0 (lc e3 (lc (eU e0) (lc (eU e10) lN))))) Ent.refl
     ·refine zs rfl (ld 0 1 m8 e1 rfl) ?_
      exact at_use k17 (lc e1 (lc e0 (lc e3 (lc e10 (lc e17 (lc (eU e7) lN)))))) Ent.refl
     refine zs rfl (ld 0 0 m2 e9 rfl) ?_
     refine at_group [3, 5, 11] 3 rfl (by kernel_rfl) rfl ?_
     exact yq (ld 1 0 m10 e10 rfl) (yq (ld 0 1 m10 e1 rfl) (yq (cq (.cons m0 (.cons m3 .nil)) (r2draw_ok hr4  _ _) pn) (qN (at_use k10 (lc e3 (lc e0 (lc e2 (lc (eU e0) (lc (eU e10) lN))))) Ent.refl))))
    refine zs rfl (ld 0 0 m0 e9 rfl) ?_
    refine at_group [3, 5, 9, 10, 11] 3 rfl (by kernel_rfl) rfl ?_
    exact yq (ld 1 0 m8 e10 rfl) (yq (ld 0 1 m8 e1 rfl) (yq (ld 1 0 m6 e10 rfl) (yp (op_len m0 Tryz.underlying60) (yq (cq (.cons m2 (.cons m0 .nil)) (r2draw_ok hr4  _ _) pn) (qN (at_use k10 (lc e5 (lc e0 (lc e4 (lc (eU e0) (lc (eU e10) lN))))) Ent.refl))))))
   refine tB (pkE (p0 (p8 pn)) (tE (unfocusM (by have := g5; omega)) (pkE (p11 pn) (tE (ent_rs (m' := (st_ ms r4 r6.2.1).length) (by simp [st_])) ?_))))
   obtain rfl := sI hz1
   exact aK (draw, r6.2.2.2.2, r6.2.2.1, (st_ ms r4 r6.2.1), now, r6.2.2.2.1) () rfl (lc e0 (lc e1 lN)) (eP (p4 (p9 (p2 (p2 (p2 (p2 (p2 (p2 (p2 (p2 pn)))))))))))
  refine q2 (zp (eqL m2 .const) (zp (asg m0) (q1 (ci hz1 m0 (fun h19 hz1 => ?_) (fun h19 hz1 => ?_)))))
  ·refine cR (zp (mv m16) (zp (nc m0) (zp (fd 0 0 m0) (zq (ld 0 0 m0 e9 rfl) (zp (nc m0) (zp (fd 17 17 m0) (zq (ld 17 0 m0 e4 rfl) (zp (aI m0 .const) (zp (nc m4) (zp (fd 17 17 m0) (rz (st1 17 w0 m0 m2 t4) (rN (tB ?_)))))))))))))
   obtain rfl := sI hz1
   exact aK (draw, evs, m, ms, (wi (now + 1)), recs) () rfl (lc e16 (lc (eU e6) lN)) Ent.refl
  refine q2 (zp (eqL m4 .const) (zp (asg m0) (q1 (ci hz1 m0 (fun h20 hz1 => ?_) (fun h20 hz1 => ?_)))))
  ·refine ca 9 ?_
   refine zt 0 rfl (mv m18) ?_
   refine zt 1 rfl (nc m0) ?_
   refine zt 2 rfl (fd 0 0 m0) ?_
   refine zt 4 rfl (fd 1 1 (mU m0)) ?_
   refine at_group [3, 5, 6, 7] 1 rfl (by kernel_rfl) rfl ?_
   refine yq (ld 0 0 m1 e9 rfl) (yq (ld 0 1 m1 e1 rfl) (yp (nc m1) (yp (fd 18 18 m0) (qN (tz 8 rfl (st1 18 w0 m0 m2 t5) ?_)))))
   refine zz ?_
   refine tB ?_
   obtain rfl := sI hz1
   exact aK (v.value, evs, m, ms, now, recs) () rfl (lc e16 (lc (eU e6) lN)) Ent.refl
  refine cK (tB ?_)
  obtain rfl := sI hz1
  exact aK (draw, evs, m, ms, now, recs) () rfl (lc e8 (lc e18 lN)) Ent.refl
 subst hy1
 refine q2 (zp (mv m1) (zp (op_build (v := .agg #[zi, zi, vu 0, vu 0]) .nil (fun _ => by kernel_rfl)) (zp (nc m1) (zp (fd 4 4 m0) (rz (sta 4 m0 m2 t14) (q1 (cS (q2 (zp (mv m5) (zp (nc m0) (zp (fd 0 0 m0) (zq (ld 0 0 m0 e9 rfl) (zp (nc m0) (zp (fd 11 11 m0) (zp (fd 5 16 m0) (rt_open pick0 ?_))))))))))))))))
 rintro ⟨A21, c21⟩
 refine zq (ld 11 5 m0 e0 rfl) (zp (mv m12) (zp (op_gtr m1 m0) (q1 (cE (mem_shut (m := z1.2.2.1) rfl) ?_))))
 obtain ⟨z2, hz2, hs⟩ := bO_of hs
 refine ct_cutG (S := AccV) (G := Unit) (fun zw => z2 = zw) (fun z2 _ => [(0, vp xb 0)]) (fun z2 _ => memS eb 11 z1.2.2.1 :: pts b1 0 [vi v.kind, vi v.value] :: cP eb c l :: cfgL c l pl :: pts eb 17 [vi z1.2.2.2.2.1] :: pts eb 18 [vi z1.1] :: pts eb 19 [.slice RA z1.2.2.2.2.2.length RC] :: recsS RA RC z1.2.2.2.2.2 :: evsS eb 20 z1.2.1 :: pts xb 0 [vp eb 0] :: pts xb 1 [.slice MA z1.2.2.2.1.length MC] :: msS MA MC z1.2.2.2.1 :: pts xb 2 [vi entries] :: stpS xb 3 stamps :: pts xb 4 [vi z2.kind, vi z2.cell, vu z2.old, vu z2.new] :: [F]) ?_ (fun z2w _ hy2 => (?_ : CT _ _ _ _ _ _ _ _ _))
 ·unfold x28do_b2 at hz2
  refine ci hz2 m0 (fun h22 hz2 => ?_) (fun h22 hz2 => ?_)
  ·refine cR (zp (mv m15) (zp (mv m16) (zp (nc m0) (zp (fd 0 0 m0) (zq (ld 0 0 m0 e9 rfl) (zp (nc m0) (zp (fd 11 11 m0) (zp (fd 1 12 m0) (rt_open pick0 ?_)))))))))
   rintro ⟨A23, c23⟩
   refine zq (oq_loadA (o := 11) (i := 1) (k := 4) (us := [vi z1.2.2.1.last.kind, vi z1.2.2.1.last.cell, vu z1.2.2.1.last.old, vu z1.2.2.1.last.new]) m0 e0 (rfl) (by kernel_rfl) rfl rfl) (zp (nc m8) (zp (fd 4 4 m0) (rz (sta 4 m0 m2 t15) (rN (tE (mem_shut (m := z1.2.2.1) rfl) ?_)))))
   obtain rfl := sI hz2
   exact aK z1.2.2.1.last () rfl (lc (eU e6) lN) Ent.refl
  refine cK ?_
  obtain rfl := sI hz2
  exact aK (⟨0, 0, 0, 0⟩ : AccV) () rfl (lc e15 lN) Ent.refl
 subst hy2
 refine cS ?_
 obtain ⟨z3, hz3, hs⟩ := bO_of hs
 refine ct_cutG (S := (List Int)) (G := Unit) (fun zw => z3 = zw) (fun z3 _ => [(0, vp xb 0)]) (fun z3 _ => memS eb 11 z1.2.2.1 :: pts b1 0 [vi v.kind, vi v.value] :: cP eb c l :: cfgL c l pl :: pts eb 17 [vi z1.2.2.2.2.1] :: pts eb 18 [vi z1.1] :: pts eb 19 [.slice RA z1.2.2.2.2.2.length RC] :: recsS RA RC z1.2.2.2.2.2 :: evsS eb 20 z1.2.1 :: pts xb 0 [vp eb 0] :: pts xb 1 [.slice MA z1.2.2.2.1.length MC] :: msS MA MC z1.2.2.2.1 :: pts xb 2 [vi entries] :: stpS xb 3 z3 :: pts xb 4 [vi z2.kind, vi z2.cell, vu z2.old, vu z2.new] :: [F]) ?_ (fun z3w _ hy3 => (?_ : CT _ _ _ _ _ _ _ _ _))
 ·refine cB (ct_loopK (S := (List Int)) (G := Unit) (fun k y3 => x28do_l3 entries z1 k y3 = some z3) (fun _ h => by rw [x28do_l3] at h; cases h) (fun y3 _ => [(0, vp xb 0)]) (fun y3 _ => memS eb 11 z1.2.2.1 :: pts b1 0 [vi v.kind, vi v.value] :: cP eb c l :: cfgL c l pl :: pts eb 17 [vi z1.2.2.2.2.1] :: pts eb 18 [vi z1.1] :: pts eb 19 [.slice RA z1.2.2.2.2.2.length RC] :: recsS RA RC z1.2.2.2.2.2 :: evsS eb 20 z1.2.1 :: pts xb 0 [vp eb 0] :: pts xb 1 [.slice MA z1.2.2.2.1.length MC] :: msS MA MC z1.2.2.2.1 :: pts xb 2 [vi entries] :: stpS xb 3 y3 :: pts xb 4 [vi z2.kind, vi z2.cell, vu z2.old, vu z2.new] :: [F]) 1000000 stamps () hz3 (lc e0 .nil) Ent.refl (fun k3 y3 _ hz => ?_))
  clear hz3
  have hz3 := hz; clear hz
  rw [x28do_l3] at hz3
  refine cS (cS (ct_open pick8 ?_))
  rintro ⟨A24, c24⟩
  refine ct_open pick14 ?_
  rintro ⟨A25, c25⟩
  refine ct_draw (by kernel_rfl) (by kernel_rfl) ?_
  refine yp (mv m0) (yp (nc m0) (yp (fd 3 3 m0) (yq (ld 3 0 m0 e0 rfl) (yp (op_len m0 Tryz.underlying23) (yp (mv m5) (yp (nc m0) (yp (fd 0 0 m0) (yq (ld 0 0 m0 e12 rfl) (yp (nc m0) (yp (fd 20 20 m0) (yq (ld 20 0 m0 e2 rfl) (yp (op_len m0 Tryz.underlying56) (yp (op_lss m8 m0) (qN (tT (cE (Ent.picks (p2 (p2 .nil))) (cE (evs_shut (l := z1.2.1) rfl rfl) (cE (Ent.picks (p1 (p1 .nil))) (cE (stp_shut (l := y3) rfl) (ci hz3 m0 (fun h26 hz3 => ?_) (fun h26 hz3 => ?_)))))))))))))))))))))
  ·refine cK (tT (cB (ct_open pick0 ?_)))
   rintro ⟨A27, c27⟩
   obtain ⟨g28, hz3⟩ := gO hz3
   refine ct_cutEY (fun a_ w_ => ∃ (A30 : Option Addr) (c30 : Nat) (b29 : Nat), Sta 117 B W [(109, vp xb 3), (108, vp xb 0), (107, .slice A30 (y3.length + 1) c30), (106, .slice (some ⟨b29, 0, none⟩) 1 1), (105, vi entries), (101, .slice A27 y3.length c27), (104, vp xb 2), (103, vp xb 0), (102, vp xb 0), (100, vp xb 3), (99, vp xb 0), (98, vp xb 0), (97, vp xb 0), (96, .bool (decide (((y3.length : Nat) : Int) < ((z1.2.1.length : Nat) : Int)))), (95, vi (((z1.2.1.length : Nat) : Int))), (94, .slice A24 z1.2.1.length c24), (93, vp eb 20), (92, vp eb 0), (91, vp eb 0), (90, vp xb 0), (89, vp xb 0), (88, vp xb 0), (87, vi (((y3.length : Nat) : Int))), (86, .slice A25 y3.length c25), (85, vp xb 3), (84, vp xb 0), (83, vp xb 0), (0, vp xb 0)] (rowS A30 (y3.length + 1) c30 1 ((y3 ++ [entries]).map (Value.int .i64)) :: pts xb 3 [.slice A30 (y3.length + 1) c30] :: evsS eb 20 z1.2.1 :: memS eb 11 z1.2.2.1 :: pts b1 0 [vi v.kind, vi v.value] :: cP eb c l :: cfgL c l pl :: pts eb 17 [vi z1.2.2.2.2.1] :: pts eb 18 [vi z1.1] :: pts eb 19 [.slice RA z1.2.2.2.2.2.length RC] :: recsS RA RC z1.2.2.2.2.2 :: pts xb 0 [vp eb 0] :: pts xb 1 [.slice MA z1.2.2.2.1.length MC] :: msS MA MC z1.2.2.2.1 :: pts xb 2 [vi entries] :: pts xb 4 [vi z2.kind, vi z2.cell, vu z2.old, vu z2.new] :: [F]) a_ w_) ?_ ?_
   ·refine ca 14 ?_
    refine zt 0 rfl (mv m14) ?_
    refine zt 1 rfl (mv m15) ?_
    refine zt 2 rfl (nc m0) ?_
    refine zt 3 rfl (fd 3 3 m0) ?_
    refine zt 5 rfl (mv m18) ?_
    refine zt 6 rfl (nc m0) ?_
    refine zt 7 rfl (fd 2 2 m0) ?_
    refine x2 4 8 ?_ ?_
    ·refine zs rfl (ld 3 0 m3 e0 rfl) ?_
     refine za 8 rfl (ld 2 0 m1 e14 rfl) ?_
     refine tn 9 rfl (ot_buildSlice (T' := 3) (us := [vi entries]) (.cons m0 .nil) (fun _ => by kernel_rfl)) ?_
     rintro b35
     refine tn 10 rfl (ot_append (by_ := 8) (z := zi) m2 m0 (p2 (p0 .nil)) Tryz.underlying23 (infoB_of (by kernel_rfl)) rfl (by decide) rfl rfl (by decide) (by unfold maxLen; omega) (by omega)) ?_
     rintro ⟨A36, c36⟩
     refine aE (ent_appx (ys := [entries]) rfl) (zt 11 rfl (nc m10) ?_)
     refine zt 12 rfl (fd 3 3 m0) ?_
     refine tz 13 rfl (st1 3 w0 m0 m2 t1) ?_
     refine zz ?_
     exact fun _ _ s_ => ⟨A36, c36, b35, et_sta (lc e0 (lc e1 (lc e2 (lc e3 (lc e4 (lc e5 (lc e6 (lc e7 (lc e8 (lc e9 (lc e10 (lc e11 (lc e12 (lc e13 (lc e14 (lc e15 (lc e16 (lc e17 (lc e18 (lc e19 (lc (eU e0) (lc (eU e1) (lc (eU e2) (lc (eU e3) (lc (eU e4) (lc (eU e5) (lc (eU e6) (lc (eU e7) .nil)))))))))))))))))))))))))))) Ent.refl s_⟩
    refine zs rfl (ld 2 0 m0 e14 rfl) ?_
    refine x2 4 9 ?_ ?_
    ·refine zs rfl (ld 3 0 m4 e0 rfl) ?_
     refine tn 9 rfl (ot_buildSlice (T' := 3) (us := [vi entries]) (.cons m1 .nil) (fun _ => by kernel_rfl)) ?_
     rintro b37
     refine tn 10 rfl (ot_append (by_ := 8) (z := zi) m1 m0 (p2 (p0 .nil)) Tryz.underlying23 (infoB_of (by kernel_rfl)) rfl (by decide) rfl rfl (by decide) (by unfold maxLen; omega) (by omega)) ?_
     rintro ⟨A38, c38⟩
     refine aE (ent_appx (ys := [entries]) rfl) (zt 11 rfl (nc m10) ?_)
     refine zt 12 rfl (fd 3 3 m0) ?_
     refine tz 13 rfl (st1 3 w0 m0 m2 t1) ?_
     refine zz ?_
     exact fun _ _ s_ => ⟨A38, c38, b37, et_sta (lc e0 (lc e1 (lc e2 (lc e3 (lc e5 (lc e4 (lc e6 (lc e7 (lc e8 (lc e9 (lc e10 (lc e11 (lc e12 (lc e13 (lc e14 (lc e15 (lc e16 (lc e17 (lc e18 (lc e19 (lc (eU e0) (lc (eU e1) (lc (eU e2) (lc (eU e3) (lc (eU e4) (lc (eU e5) (lc (eU e6) (lc (eU e7) .nil)))))))))))))))))))))))))))) Ent.refl s_⟩
    refine un rfl (ot_buildSlice (T' := 3) (us := [vi entries]) (.cons m0 .nil) (fun _ => by kernel_rfl)) ?_
    rintro b39
    refine za 4 rfl (ld 3 0 m5 e1 rfl) ?_
    refine tn 10 rfl (ot_append (by_ := 8) (z := zi) m0 m1 (p2 (p0 .nil)) Tryz.underlying23 (infoB_of (by kernel_rfl)) rfl (by decide) rfl rfl (by decide) (by unfold maxLen; omega) (by omega)) ?_
    rintro ⟨A40, c40⟩
    refine aE (ent_appx (ys := [entries]) rfl) (zt 11 rfl (nc m10) ?_)
    refine zt 12 rfl (fd 3 3 m0) ?_
    refine tz 13 rfl (st1 3 w0 m0 m2 t1) ?_
    refine zz ?_
    exact fun _ _ s_ => ⟨A40, c40, b39, et_sta (lc e0 (lc e1 (lc e2 (lc e4 (lc e5 (lc e3 (lc e6 (lc e7 (lc e8 (lc e9 (lc e10 (lc e11 (lc e12 (lc e13 (lc e14 (lc e15 (lc e16 (lc e17 (lc e18 (lc e19 (lc (eU e0) (lc (eU e1) (lc (eU e2) (lc (eU e3) (lc (eU e4) (lc (eU e5) (lc (eU e6) (lc (eU e7) .nil)))))))))))))))))))))))))))) Ent.refl s_⟩
   rintro a_ w_ ⟨A30, c30, b29, hst⟩
   refine (?_ : ET _ _ _ _ .normal _ _) a_ w_ hst
   clear hst
   exact tB (pkE (p1 pn) (tE (stp_shut (l := (y3 ++ [entries])) (by simp)) (aK (y3 ++ [entries]) () hz3 (lc (eU e7) lN) (eP (p2 (p2 (p2 (p2 (p2 (p2 (p2 (p2 (p1 (p1 (p1 (p1 (p1 pn)))))))))))))))))
  refine cX (tX (tX (bH ?_)))
  obtain rfl := sI hz3
  exact aK y3 () rfl (lc e14 lN) (eP (p2 (p2 (p2 (p2 (p2 (p2 (p2 (p2 (p1 (p1 (p1 (p1 (p1 pn))))))))))))))
 subst hy3
 refine cR (zp (mv m0) (zp (nc m0) (zp (fd 2 2 m0) (zq (ld 2 0 m0 e12 rfl) (zp (aI m0 .const) (zp (nc m4) (zp (fd 2 2 m0) (rz (st1 2 w0 m0 m2 t12) (rN ?_)))))))))
 obtain rfl := sI hs
 exact et_fn_end () rfl .nil rfl ((Ent.picks (p1 (p1 (p1 (p0 (p0 (p0 (p0 (p0 (p0 (p0 (p0 (p0 (p0 (p0 (p0 .nil)))))))))))))))).trans Ent.drop)
end
section
open Go Go.RowKit
set_option maxRecDepth 100000
set_option maxHeartbeats 2000000
variable {c : Cfg} {m : MemV} {now draw : Int} {recs : List RecV} {evs : List Ev} {f : FrV}
def x28run_l1 (c : Cfg) (es : List EntV) : Nat → Int × Int × (List Ev) × AccV × MemV × (List MaV) × Int × (List RecV) × (List Int) × Int → Option (Int × Int × (List Ev) × AccV × MemV × (List MaV) × Int × (List RecV) × (List Int) × Int)
 | 0, _ => none
 | k + 1, y1 =>
  if y1.1 < ((es.length : Nat) : Int) then
   if 0 ≤ y1.1 ∧ y1.1 < (es.length : Int) then
   (x28do_s c y1.2.2.2.2.1 y1.2.2.2.2.2.2.1 y1.2.1 y1.2.2.2.2.2.2.2.1 y1.2.2.1 y1.2.2.2.2.2.1 y1.2.2.2.2.2.2.2.2.2 y1.2.2.2.2.2.2.2.2.1 y1.2.2.2.1 (at_ es y1.1)).bind fun r3 =>
   x28run_l1 c es k ((wi (y1.1 + 1)), r3.2.2.1, r3.2.2.2.2.1, r3.2.2.2.2.2.2.2.2, r3.1, r3.2.2.2.2.2.1, r3.2.1, r3.2.2.2.1, r3.2.2.2.2.2.2.2.1, r3.2.2.2.2.2.2.1)
   else none
  else
  some (y1.1, y1.2.1, y1.2.2.1, y1.2.2.2.1, y1.2.2.2.2.1, y1.2.2.2.2.2.1, y1.2.2.2.2.2.2.1, y1.2.2.2.2.2.2.2.1, y1.2.2.2.2.2.2.2.2.1, y1.2.2.2.2.2.2.2.2.2)
def x28run_s (c : Cfg) (m : MemV) (now : Int) (draw : Int) (recs : List RecV) (evs : List Ev) (ms : List MaV) (entries : Int) (stamps : List Int) (last : AccV) (es : List EntV) : Option (MemV × Int × Int × (List RecV) × (List Ev) × (List MaV) × Int × (List Int) × AccV) :=
 (x28run_l1 c es (es.length + 1) (0, draw, evs, last, m, ms, now, recs, stamps, entries)).bind fun z1 =>
 some (z1.2.2.2.2.1, z1.2.2.2.2.2.2.1, z1.2.1, z1.2.2.2.2.2.2.2.1, z1.2.2.1, z1.2.2.2.2.2.1, z1.2.2.2.2.2.2.2.2.2, z1.2.2.2.2.2.2.2.2.1, z1.2.2.2.1)
theorem x28run_ok {ms : List MaV} {entries : Int} {stamps : List Int} {last : AccV} {es : List EntV} {o : MemV × Int × Int × (List RecV) × (List Ev) × (List MaV) × Int × (List Int) × AccV} (hs : x28run_s c m now draw recs evs ms entries stamps last es = some o) (xb eb : Nat) (l : CfgAt) (pl : List (Option Addr × Nat)) (RA : Option Addr) (RC : Nat) (MA : Option Addr) (MC : Nat) (esA : Option Addr) (esC : Nat)  (B : Nat) (W : World)  : Fn_ Tryz.prog 10 #[vp xb 0, .slice esA es.length esC] B W [cP eb c l, cfgL c l pl, memS eb 11 m, pts eb 17 [vi now], pts eb 18 [vi draw], pts eb 19 [.slice RA recs.length RC], recsS RA RC recs, evsS eb 20 evs, pts xb 0 [vp eb 0], pts xb 1 [.slice MA ms.length MC], msS MA MC ms, pts xb 2 [vi entries], stpS xb 3 stamps, pts xb 4 [vi last.kind, vi last.cell, vu last.old, vu last.new], roS EntV.enc 2 esA esC es] (X := Unit) (fun x => .tuple #[]) (fun x => [cP eb c l, cfgL c l pl, memS eb 11 o.1, pts eb 17 [vi o.2.1], pts eb 18 [vi o.2.2.1], pts eb 19 [.slice RA o.2.2.2.1.length RC], recsS RA RC o.2.2.2.1, evsS eb 20 o.2.2.2.2.1, pts xb 0 [vp eb 0], pts xb 1 [.slice MA o.2.2.2.2.2.1.length MC], msS MA MC o.2.2.2.2.2.1, pts xb 2 [vi o.2.2.2.2.2.2.1], stpS xb 3 o.2.2.2.2.2.2.2.1, pts xb 4 [vi o.2.2.2.2.2.2.2.2.kind, vi o.2.2.2.2.2.2.2.2.cell, vu o.2.2.2.2.2.2.2.2.old, vu o.2.2.2.2.2.2.2.2.new], roS EntV.enc 2 esA esC es]) := by
 unfold x28run_s at hs
 refine fe2 Tryz.func10 17 rfl (fun F => ?_)
 refine q2 (zp (asg .const) (q1 ?_))
 obtain ⟨z1, hz1, hs⟩ := bO_of hs
 refine ct_cutZ (S := Int × Int × (List Ev) × AccV × MemV × (List MaV) × Int × (List RecV) × (List Int) × Int) (G := Unit) (fun zw => z1 = zw) (fun z1 _ => []) (fun z1 _ => cP eb c l :: cfgL c l pl :: memS eb 11 z1.2.2.2.2.1 :: pts eb 17 [vi z1.2.2.2.2.2.2.1] :: pts eb 18 [vi z1.2.1] :: pts eb 19 [.slice RA z1.2.2.2.2.2.2.2.1.length RC] :: recsS RA RC z1.2.2.2.2.2.2.2.1 :: evsS eb 20 z1.2.2.1 :: pts xb 0 [vp eb 0] :: pts xb 1 [.slice MA z1.2.2.2.2.2.1.length MC] :: msS MA MC z1.2.2.2.2.2.1 :: pts xb 2 [vi z1.2.2.2.2.2.2.2.2.2] :: stpS xb 3 z1.2.2.2.2.2.2.2.2.1 :: pts xb 4 [vi z1.2.2.2.1.kind, vi z1.2.2.2.1.cell, vu z1.2.2.2.1.old, vu z1.2.2.2.1.new] :: roS EntV.enc 2 esA esC es :: [F]) ?_ (fun z1w _ hy1 => (?_ : ET _ _ _ _ .normal _ _))
 ·refine cB (ct_loopK (S := Int × Int × (List Ev) × AccV × MemV × (List MaV) × Int × (List RecV) × (List Int) × Int) (G := Unit) (fun k y1 => x28run_l1 c es k y1 = some z1) (fun _ h => by rw [x28run_l1] at h; cases h) (fun y1 _ => [(4, vi y1.1), (0, vp xb 0), (1, .slice esA es.length esC)]) (fun y1 _ => cP eb c l :: cfgL c l pl :: memS eb 11 y1.2.2.2.2.1 :: pts eb 17 [vi y1.2.2.2.2.2.2.1] :: pts eb 18 [vi y1.2.1] :: pts eb 19 [.slice RA y1.2.2.2.2.2.2.2.1.length RC] :: recsS RA RC y1.2.2.2.2.2.2.2.1 :: evsS eb 20 y1.2.2.1 :: pts xb 0 [vp eb 0] :: pts xb 1 [.slice MA y1.2.2.2.2.2.1.length MC] :: msS MA MC y1.2.2.2.2.2.1 :: pts xb 2 [vi y1.2.2.2.2.2.2.2.2.2] :: stpS xb 3 y1.2.2.2.2.2.2.2.2.1 :: pts xb 4 [vi y1.2.2.2.1.kind, vi y1.2.2.2.1.cell, vu y1.2.2.2.1.old, vu y1.2.2.2.1.new] :: roS EntV.enc 2 esA esC es :: [F]) (es.length + 1) (0, draw, evs, last, m, ms, now, recs, stamps, entries) () hz1 (lc e0 (lc e1 (lc e2 .nil))) Ent.refl (fun k1 y1 _ hz => ?_))
  clear hz1
  have hz1 := hz; clear hz
  rw [x28run_l1] at hz1
  refine cS (q2 (zp (mv m0) (zp (mv m3) (zp (op_len m0 Tryz.underlying33) (zp (op_lss m2 m0) (q1 (ci hz1 m0 (fun h1 hz1 => ?_) (fun h1 hz1 => ?_))))))))
  ·refine cK (tT (cS (cB (cR (zp (mv m5) (zp (mv m7) (zp (mv m6) ?_)))))))
   obtain ⟨g2, hz1⟩ := gO hz1
   refine zq (oq_indexD (enc := EntV.enc) (sz' := 2) (sz := 2) (xs := es) m1 m0 (rd_ro e14) g2 rfl (by kernel_rfl) rfl) (zq (oq_loadDS (enc := EntV.enc) (sz := 2) (i := (y1.1).toNat) (xs := es) m0 (rd_ro e14) (at_get g2) rfl (by kernel_rfl) rfl) ?_)
   obtain ⟨r3, hr3, hz1⟩ := bO_of hz1
   exact ru (co (.cons m4 (.cons m0 .nil)) (x28do_ok hr3 xb eb l pl RA RC MA MC _ _) (p0 (p0 (p0 (p0 (p0 (p0 (p0 (p0 (p0 (p0 (p0 (p0 (p0 (p0 pn))))))))))))))) (rN (tB (tT (cR (zp (mv m10) (zp (aI m0 .const) (zo (asg m0) pick12 (rN (aK ((wi (y1.1 + 1)), r3.2.2.1, r3.2.2.2.2.1, r3.2.2.2.2.2.2.2.2, r3.1, r3.2.2.2.2.2.1, r3.2.1, r3.2.2.2.1, r3.2.2.2.2.2.2.2.1, r3.2.2.2.2.2.2.1) () hz1 (lc e0 (lc e13 (lc e14 lN))) Ent.refl)))))))))
  refine cX (tX (tX (bH ?_)))
  obtain rfl := sI hz1
  exact aK (y1.1, y1.2.1, y1.2.2.1, y1.2.2.2.1, y1.2.2.2.2.1, y1.2.2.2.2.2.1, y1.2.2.2.2.2.2.1, y1.2.2.2.2.2.2.2.1, y1.2.2.2.2.2.2.2.2.1, y1.2.2.2.2.2.2.2.2.2) () rfl lN Ent.refl
 subst hy1
 obtain rfl := sI hs
 exact et_fn_end () rfl .nil rfl (Ent.picks (p0 (p0 (p0 (p0 (p0 (p0 (p0 (p0 (p0 (p0 (p0 (p0 (p0 (p0 (p0 .nil))))))))))))))))
def x28events_l1 (evs : List Ev) (stamps : List Int) : Nat → (List St) × Int → Option ((List St) × Int)
 | 0, _ => none
 | k + 1, y1 =>
  if y1.2 < ((evs.length : Nat) : Int) then
   if 0 ≤ y1.2 ∧ y1.2 < (stamps.length : Int) then
   if 0 ≤ y1.2 ∧ y1.2 < (evs.length : Int) then
   if (((y1.1.length + 1 : Nat)) : Int) < 100000000000 then
   x28events_l1 evs stamps k ((y1.1 ++ [(⟨(at_ stamps y1.2), (at_ evs y1.2)⟩ : St)]), (wi (y1.2 + 1)))
   else none
   else none
   else none
  else
  some (y1.1, y1.2)
def x28events_s (evs : List Ev) (stamps : List Int) : Option ((List St)) :=
 (x28events_l1 evs stamps (evs.length + 1) ([], 0)).bind fun z1 =>
 some z1.1
theorem x28events_ok {stamps : List Int} {o : (List St)} (hs : x28events_s evs stamps = some o) (xb eb : Nat)  (B : Nat) (W : World)  : Fn_ Tryz.prog 16 #[vp xb 0] B W [evsS eb 20 evs, pts xb 0 [vp eb 0], stpS xb 3 stamps] (X := Option Addr × Nat) (fun x => .slice x.1 o.length x.2) (fun x => [rowS x.1 o.length x.2 6 (o.flatMap St.enc), evsS eb 20 evs, pts xb 0 [vp eb 0], stpS xb 3 stamps]) := by
 unfold x28events_s at hs
 refine fe1 Tryz.func16 39 rfl (fun F => ?_)
 refine q2 (zp (asg .const) (q3 (zp (asg .const) (q1 (cS (q2 (zp (asg .const) (q1 (cE (ent_niln (sz := 6) (enc := St.enc)) ?_)))))))))
 obtain ⟨z1, hz1, hs⟩ := bO_of hs
 refine ct_cutG (S := (List St) × Int) (G := Option Addr × Nat) (fun zw => z1 = zw) (fun z1 g1 => [(3, .slice g1.1 z1.1.length g1.2), (2, .slice none 0 0)]) (fun z1 g1 => rowS g1.1 z1.1.length g1.2 6 (z1.1.flatMap St.enc) :: evsS eb 20 evs :: pts xb 0 [vp eb 0] :: stpS xb 3 stamps :: [F]) ?_ (fun z1w g1 hy1 => (?_ : CT _ _ _ _ _ _ _ _ _))
 ·refine cB (ct_loopK (S := (List St) × Int) (G := Option Addr × Nat) (fun k y1 => x28events_l1 evs stamps k y1 = some z1) (fun _ h => by rw [x28events_l1] at h; cases h) (fun y1 g1 => [(3, .slice g1.1 y1.1.length g1.2), (4, vi y1.2), (2, .slice none 0 0), (0, vp xb 0)]) (fun y1 g1 => rowS g1.1 y1.1.length g1.2 6 (y1.1.flatMap St.enc) :: evsS eb 20 evs :: pts xb 0 [vp eb 0] :: stpS xb 3 stamps :: [F]) (evs.length + 1) ([], 0) ((none : Option Addr), 0) hz1 (lc e1 (lc e0 (lc e2 (lc e3 .nil)))) Ent.refl (fun k1 y1 g1 hz => ?_))
  clear hz1
  have hz1 := hz; clear hz
  rw [x28events_l1] at hz1
  refine cS (q2 (zp (mv m1) (zp (mv m4) (zp (nc m0) (zp (fd 0 0 m0) (zq (ld 0 0 m0 e2 rfl) (zp (nc m0) (zp (fd 20 20 m0) (rt_open pick1 ?_)))))))))
  rintro ⟨A1, c1⟩
  refine zq (ld 20 0 m0 e0 rfl) (zp (op_len m0 Tryz.underlying56) (zp (op_lss m8 m0) (q1 (ci hz1 m0 (fun h2 hz1 => ?_) (fun h2 hz1 => ?_)))))
  ·refine cK (tT (cS (cB (ct_open pick4 ?_))))
   rintro ⟨A3, c3⟩
   refine ca 22 ?_
   refine zt 0 rfl (mv m10) ?_
   refine zt 1 rfl (mv m14) ?_
   refine zt 2 rfl (nc m0) ?_
   refine zt 3 rfl (fd 3 3 m0) ?_
   refine zt 5 rfl (mv m15) ?_
   refine zt 8 rfl (mv m18) ?_
   refine zt 9 rfl (nc m0) ?_
   refine zt 10 rfl (fd 0 0 m0) ?_
   refine zt 15 rfl (mv m19) ?_
   refine at_group [4, 6, 7, 11, 12, 13, 14, 16, 17, 18] 3 rfl (by kernel_rfl) rfl ?_
   refine yq (ld 3 0 m5 e0 rfl) ?_
   obtain ⟨g4, hz1⟩ := gO hz1
   refine yq (oq_indexS (i := (y1.2).toNat) m0 m5 e1 (by omega) (by omega) (by omega) (by kernel_rfl) (Nat.mul_one _)) (yq (oq_loadS (i := (y1.2).toNat) m0 e1 (at_map g4) (by kernel_rfl)) (yq (ld 0 0 m4 e5 rfl) (yp (nc m0) (yp (fd 20 20 m0) (yq (ld 20 0 m0 e2 rfl) ?_)))))
   obtain ⟨g5, hz1⟩ := gO hz1
   refine yq (oq_indexD (enc := Ev.enc) (sz' := 5) (sz := 5) (xs := evs) m0 m7 (rd_row (enc := Ev.enc) (sz := 5) (by decide) (fun _ => rfl) e3 rfl) g5 rfl (by kernel_rfl) rfl) (yq (oq_loadDS (enc := Ev.enc) (sz := 5) (i := (y1.2).toNat) (xs := evs) m0 (rd_row (enc := Ev.enc) (sz := 5) (by decide) (fun _ => rfl) e3 rfl) (at_get g5) rfl (by kernel_rfl) rfl) (yp (op_build (v := .agg #[vi ((at_ stamps y1.2)), vi ((at_ evs y1.2).kind), vi ((at_ evs y1.2).worker), vi ((at_ evs y1.2).task), vi ((at_ evs y1.2).other), vi ((at_ evs y1.2).level)]) (.cons m6 (.cons m0 .nil)) (fun _ => by kernel_rfl)) (qN (tn 19 rfl (ot_buildSlice (T' := 85) (us := [vi ((at_ stamps y1.2)), vi ((at_ evs y1.2).kind), vi ((at_ evs y1.2).worker), vi ((at_ evs y1.2).task), vi ((at_ evs y1.2).other), vi ((at_ evs y1.2).level)]) (.cons m0 .nil) (fun _ => by kernel_rfl)) ?_))))
   rintro b6
   obtain ⟨g8, hz1⟩ := gO hz1
   refine tn 20 rfl (ot_append (by_ := 48) (z := .agg #[zi, zi, zi, zi, zi, zi]) m19 m0 (p5 (p0 .nil)) Tryz.underlying39 (infoB_of (by kernel_rfl)) rfl (by decide) rfl rfl (by decide) (by unfold maxLen; omega) (by omega)) ?_
   rintro ⟨A7, c7⟩
   refine aE (ent_flatx (ys := [(⟨(at_ stamps y1.2), (at_ evs y1.2)⟩ : St)]) rfl) ?_
   rw [show (y1.1.length + 1) = (y1.1 ++ [(⟨(at_ stamps y1.2), (at_ evs y1.2)⟩ : St)]).length from (List.length_append (bs := [(⟨(at_ stamps y1.2), (at_ evs y1.2)⟩ : St)])).symm]
   refine at_take 21 (by kernel_rfl) rfl rfl rfl (asg m0) wants_none (put_over (pickU pick11) (by kernel_rfl)) ?_
   refine zz ?_
   exact tB (tT (cR (zp (mv (mU m12)) (zp (aI m0 .const) (zo (asg m0) (pickU pick14) (rN (pkE (p3 (p3 pn)) (tE (evs_shut (l := evs) rfl rfl) (pkE (p2 (p2 pn)) (tE (stp_shut (l := stamps) rfl) (aK ((y1.1 ++ [(⟨(at_ stamps y1.2), (at_ evs y1.2)⟩ : St)]), (wi (y1.2 + 1))) ((A7 : Option Addr), c7) hz1 (lc e3 (lc e0 (lc (eU e15) (lc (eU e16) lN)))) (eP (p2 (p1 (p1 pn)))))))))))))))
  refine cX (tX (tX (bH (tE (evs_shut (l := evs) rfl rfl) ?_))))
  obtain rfl := sI hz1
  exact aK (y1.1, y1.2) ((g1.1 : Option Addr), g1.2) rfl (lc e10 (lc e12 lN)) (eP (p1 pn))
 subst hy1
 refine q2 (zp (mv m0) (zo (asg m0) pick2 (q4 ?_)))
 obtain rfl := sI hs
 exact et_fn (vs := [.slice g1.1 z1.1.length g1.2]) ((g1.1 : Option Addr), g1.2) rfl (.cons e0 .nil) rfl Ent.refl
end
section
open Go Go.RowKit
def rcsN (b o : Nat) (l : List RecV) : Option Addr × Nat → List SProp := fun p => [pts b o [.slice p.1 l.length p.2], recsS p.1 p.2 l]
def rcsS (b o : Nat) (l : List RecV) : SProp := exL (rcsN b o l)
def mssN (b o : Nat) (l : List MaV) : Option Addr × Nat → List SProp := fun p => [pts b o [.slice p.1 l.length p.2], msS p.1 p.2 l]
def mssS (b o : Nat) (l : List MaV) : SProp := exL (mssN b o l)
section
variable {r : Option Nat} {P : Program} {ops : Array Oper} {Q : Exit → Act → World → Prop} {n B : Nat} {W : World} {R R' : RList} {L L' M : List SProp} {v : Value} {x y z : Operand}
  {d : Option Tmp} {ty : TypeId} {ps : String} {af : Array Edge} {g : Option (Nat × Bool)} {T T' : TypeId} {A : Option Addr} {c b : Nat}
theorem rcs_shut {o k : Nat} {l : List RecV} (hk : l.length = k) : Ent (pts b o [.slice A k c] :: recsS A c l :: L) (rcsS b o l :: L) := by
  subst hk; exact shut (N := rcsN b o l) (A, c) rfl
theorem mss_shut {o k : Nat} {l : List MaV} (hk : l.length = k) : Ent (pts b o [.slice A k c] :: msS A c l :: L) (mssS b o l :: L) := by
  subst hk; exact shut (N := mssN b o l) (A, c) rfl
theorem recs_nil : Ent L (recsS none 0 [] :: L) := fun h s => ⟨fun _ _ => none, h, fun _ _ => .inl rfl, by funext x y; rfl, ⟨Nat.le_refl _, Nat.zero_le _, .inl ⟨rfl, rfl⟩⟩, s⟩
theorem row_zeros {k : Nat} (hn : k ≤ maxLen) : Ent (pts b 0 (List.replicate k (Value.int .u64 0)) :: L) (rowS (some ⟨b, 0, none⟩) (List.replicate k (0 : Int)).length k 1 ((List.replicate k (0 : Int)).map (Value.int .u64)) :: L) :=
  Ent.cons (fun h p => by
    rw [List.length_replicate]
    exact rowS_of_pts (by simp) hn h (by simpa using p)) Ent.refl
/-- A new environment, in its parts. -/
theorem env_split {vs : List Value} {m : MemV} (h11 : vs.length = 11) :
    Ent (pts b 0 (vs ++ ([.slice A m.cells.length c, .int .i64 m.last.kind, .int .i64 m.last.cell, .int .u64 m.last.old, .int .u64 m.last.new, .int .i64 m.count] ++ ([.int .i64 0] ++ ([.int .i64 0] ++ ([.slice none 0 0] ++ [.slice none 0 0]))))) :: rowS A m.cells.length c 1 (m.cells.map (Value.int .u64)) :: L)
      (pts b 0 vs :: memS b 11 m :: pts b 17 [.int .i64 0] :: pts b 18 [.int .i64 0] :: rcsS b 19 [] :: evsS b 20 [] :: L) := by
  refine pts_two.trans (Ent.cons (fun _ h => h) ?_)
  refine pts_two.trans ?_
  rw [h11]
  refine (show Ent _ (pts b 11 _ :: rowS A m.cells.length c 1 (m.cells.map (Value.int .u64)) :: pts b 17 _ :: L) from fun h s => star_tail (fun _ => star_swap) s).trans ?_
  refine (shut (N := memN b 11 m) (A, c) rfl).trans (Ent.cons (fun _ h => h) ?_)
  refine pts_two.trans (Ent.cons (fun _ h => h) ?_)
  refine pts_two.trans (Ent.cons (fun _ h => h) ?_)
  refine pts_two.trans ?_
  have e1 : Ent (pts b 20 [Value.slice none 0 0] :: L) (evsS b 20 [] :: L) := by
    have h1 : Ent (pts b 20 [Value.slice none 0 0] :: L) (rowS none 0 0 5 [] :: pts b 20 [Value.slice none 0 0] :: L) := ent_nil 5
    exact (h1.trans (fun h s => star_swap s)).trans (shut (N := evsN b 20 []) (none, 0) rfl)
  have e2 : Ent (pts b 19 [Value.slice none 0 0] :: evsS b 20 [] :: L) (rcsS b 19 [] :: evsS b 20 [] :: L) :=
    ((recs_nil.trans (fun h s => star_swap s)).trans (shut (N := rcsN b 19 []) (none, 0) rfl))
  exact (Ent.cons (fun _ h => h) e1).trans e2
theorem eng_split {e : Nat} {vs : List Value} : Ent (pts b 0 ([ptrV e] ++ ([.slice none 0 0] ++ ([.int .i64 0] ++ ([.slice none 0 0] ++ vs)))) :: L) (pts b 0 [ptrV e] :: mssS b 1 [] :: pts b 2 [.int .i64 0] :: stpS b 3 [] :: pts b 4 vs :: L) := by
  refine pts_two.trans (Ent.cons (fun _ h => h) ?_)
  refine pts_two.trans ?_
  refine (Ent.cons (fun _ h => h) (pts_two.trans (Ent.cons (fun _ h => h) pts_two))).trans ?_
  have e2 : Ent (pts b 1 [Value.slice none 0 0] :: pts b 2 [Value.int .i64 0] :: pts b 3 [Value.slice none 0 0] :: pts b 4 vs :: L) (mssS b 1 [] :: pts b 2 [.int .i64 0] :: pts b 3 [Value.slice none 0 0] :: pts b 4 vs :: L) :=
    ((ms_nil.trans (fun h s => star_swap s)).trans (shut (N := mssN b 1 []) (none, 0) rfl))
  refine e2.trans (Ent.cons (fun _ h => h) (Ent.cons (fun _ h => h) ?_))
  have h1 : Ent (pts b 3 [Value.slice none 0 0] :: pts b 4 vs :: L) (rowS none 0 0 1 [] :: pts b 3 [Value.slice none 0 0] :: pts b 4 vs :: L) := ent_nil 1
  exact (h1.trans (fun h s => star_swap s)).trans (shut (N := stpN b 3 []) (none, 0) rfl)
end
end
section
open Go Go.RowKit
set_option maxRecDepth 100000
set_option maxHeartbeats 2000000
variable {c : Cfg} {m : MemV} {now draw : Int} {recs : List RecV} {evs : List Ev} {f : FrV}
def r8make_s (f : FrV) : MaV :=
 if f.kind = 22 then
  (⟨[({ f with line := 1, d := (-1) } : FrV)], false, 0, 0⟩ : MaV)
 else
 (⟨[({ f with line := 1 } : FrV)], false, 0, 0⟩ : MaV)
theorem r8make_ok {o : MaV} (hs : r8make_s f = o) (fA : Option Addr) (fC : Nat)  (B : Nat) (W : World)  : Fn_ Tryz.prog 26 #[.agg #[vi f.kind, vi f.line, vi f.q.top, vi f.q.bottom, vi f.q.ring, vi f.q.cap, vi f.a, vi f.b, vi f.d, vi f.i, vi f.j, vi f.n, vi f.t, vu f.u, vu f.v, vu f.w, vu f.x, .slice fA f.l.length fC]] B W [roS encInt 1 fA fC f.l] (X := Nat) (fun x => vp x 0) (fun x => [machS x o, roS encInt 1 fA fC f.l]) := by
 unfold r8make_s at hs
 refine fe1 Tryz.func26 12 rfl (fun F => ?_)
 refine q2 (rn (ot_box m0 (us := [vi f.kind, vi f.line, vi f.q.top, vi f.q.bottom, vi f.q.ring, vi f.q.cap, vi f.a, vi f.b, vi f.d, vi f.i, vi f.j, vi f.n, vi f.t, vu f.u, vu f.v, vu f.w, vu f.x, .slice fA f.l.length fC]) rfl) ?_)
 rintro b1
 refine zp (asg .const) (q3 (zp (fd 1 1 m1) (rz (st1 0 w1 m0 .const t0) (q1 (cS (q2 (zp (fd 0 0 m2) (zq (ld 0 0 m0 e0 rfl) (zp (eqL m0 .const) (q1 (ci hs m0 (fun h2 hs => ?_) (fun h2 hs => ?_))))))))))))
 ·refine cR (zp (fd 8 8 m5) (rz (st1 0 w8 m0 .const t0) (q3 (zq (lda 0 m6 e0) (rn (ot_buildSlice (T' := 75) (us := [vi f.kind, vi 1, vi f.q.top, vi f.q.bottom, vi f.q.ring, vi f.q.cap, vi f.a, vi f.b, vi ((-1)), vi f.i, vi f.j, vi f.n, vi f.t, vu f.u, vu f.v, vu f.w, vu f.x, .slice fA f.l.length fC]) (.cons m0 .nil) (fun _ => by kernel_rfl)) ?_)))))
  rintro b3
  refine zp (op_build (v := .agg #[.slice (some ⟨b3, 0, none⟩) 1 1, .bool false, zi, zi]) (.cons m0 .nil) (fun _ => by kernel_rfl)) (rn (ot_box m0 (us := [.slice (some ⟨b3, 0, none⟩) 1 1, .bool false, zi, zi]) rfl) ?_)
  rintro b4
  refine zo (asg m0) pick9 (q4 (pkE (p3 pn) (tE ro_dup (pkE (p3 pn) (tE (rowI_one (lst := FrV.l) (xv := ({ f with line := 1, d := (-1) } : FrV)) (A' := fA) (c' := fC) frC_len rfl) (pkE (p2 pn) (tE (mach_shut (m := (⟨[({ f with line := 1, d := (-1) } : FrV)], false, 0, 0⟩ : MaV)) rfl) ?_)))))))
  subst hs
  exact et_fn (vs := [vp b4 0]) b4 rfl (.cons e0 .nil) rfl (d1 (eP (p2 pn)))
 refine cK (tT (q2 (zq (lda 0 m5 e0) (rn (ot_buildSlice (T' := 75) (us := [vi f.kind, vi 1, vi f.q.top, vi f.q.bottom, vi f.q.ring, vi f.q.cap, vi f.a, vi f.b, vi f.d, vi f.i, vi f.j, vi f.n, vi f.t, vu f.u, vu f.v, vu f.w, vu f.x, .slice fA f.l.length fC]) (.cons m0 .nil) (fun _ => by kernel_rfl)) ?_))))
 rintro b5
 refine zp (op_build (v := .agg #[.slice (some ⟨b5, 0, none⟩) 1 1, .bool false, zi, zi]) (.cons m0 .nil) (fun _ => by kernel_rfl)) (rn (ot_box m0 (us := [.slice (some ⟨b5, 0, none⟩) 1 1, .bool false, zi, zi]) rfl) ?_)
 rintro b6
 refine zo (asg m0) pick8 (q4 (pkE (p3 pn) (tE ro_dup (pkE (p3 pn) (tE (rowI_one (lst := FrV.l) (xv := ({ f with line := 1 } : FrV)) (A' := fA) (c' := fC) frC_len rfl) (pkE (p2 pn) (tE (mach_shut (m := (⟨[({ f with line := 1 } : FrV)], false, 0, 0⟩ : MaV)) rfl) ?_)))))))
 subst hs
 exact et_fn (vs := [vp b6 0]) b6 rfl (.cons e0 .nil) rfl (d1 (eP (p2 pn)))
def r2new_s (cells : Int) : MemV :=
 (⟨(List.replicate (((if 0 < (if 131072 < cells then 131072 else cells) then (if 131072 < cells then 131072 else cells) else 0)).toNat) (0 : Int)), (⟨0, 0, 0, 0⟩ : AccV), 0⟩ : MemV)
theorem r2new_ok {cells : Int} {o : MemV} (hs : r2new_s cells = o)   (B : Nat) (W : World)  : Fn_ Tryz.prog 55 #[vi cells] B W [] (X := Option Addr × Nat) (fun x => .agg #[.slice x.1 o.cells.length x.2, vi o.last.kind, vi o.last.cell, vu o.last.old, vu o.last.new, vi o.count]) (fun x => [rowS x.1 o.cells.length x.2 1 (o.cells.map (Value.int .u64))]) := by
 unfold r2new_s at hs
 refine fe1 Tryz.func55 8 rfl (fun F => ?_)
 refine q2 (rn (al [.slice none 0 0, zi, zi, vu 0, vu 0, zi]) ?_)
 rintro b1
 refine q3 (zp (mv m1) (zp (op_min m0 .const) (zp (op_max .const m0) ?_)))
 have zb3 : 0 ≤ (if 0 < (if 131072 < cells then 131072 else cells) then (if 131072 < cells then 131072 else cells) else 0) ∧ (if 0 < (if 131072 < cells then 131072 else cells) then (if 131072 < cells then 131072 else cells) else 0) ≤ 131072 := by split <;> (try split) <;> omega
 refine rn (ot_make (E := 50) (z := vu 0) (by_ := 8) m0 m0 Tryz.underlying49 (infoB_of (by kernel_rfl)) rfl (by omega) (by omega) (by decide)) ?_
 rintro b2
 refine zp (op_build (v := .agg #[.slice (some ⟨b2, 0, none⟩) (((if 0 < (if 131072 < cells then 131072 else cells) then (if 131072 < cells then 131072 else cells) else 0)).toNat) (((if 0 < (if 131072 < cells then 131072 else cells) then (if 131072 < cells then 131072 else cells) else 0)).toNat), zi, zi, vu 0, vu 0, zi]) (.cons m0 .nil) (fun _ => by kernel_rfl)) (rz (sta 0 m5 m0 t1) (q4 (tE (row_zeros (by have := zb3; unfold maxLen; omega)) ?_)))
 subst hs
 exact et_fn (vs := [.agg #[.slice (some ⟨b2, 0, none⟩) (((if 0 < (if 131072 < cells then 131072 else cells) then (if 131072 < cells then 131072 else cells) else 0)).toNat) (((if 0 < (if 131072 < cells then 131072 else cells) then (if 131072 < cells then 131072 else cells) else 0)).toNat), zi, zi, vu 0, vu 0, zi]]) (((some ⟨b2, 0, none⟩) : Option Addr), ((if 0 < (if 131072 < cells then 131072 else cells) then (if 131072 < cells then 131072 else cells) else 0)).toNat) rfl (.cellA (m := 6) (ws := [.slice (some ⟨b2, 0, none⟩) (((if 0 < (if 131072 < cells then 131072 else cells) then (if 131072 < cells then 131072 else cells) else 0)).toNat) (((if 0 < (if 131072 < cells then 131072 else cells) then (if 131072 < cells then 131072 else cells) else 0)).toNat), zi, zi, vu 0, vu 0, zi]) e5 e1 (by kernel_rfl) rfl rfl .nil) (by simp [tupled]) (d1 (eP (p1 pn)))
def r8new_l1 (c : Cfg) : Nat → Int × (List RecV) → Option (Int × (List RecV))
 | 0, _ => none
 | k + 1, y1 =>
  if y1.1 < c.tasks then
   bT (r8fresh_s 0 (-1)) fun r20 =>
   if (((y1.2.length + 1 : Nat)) : Int) < 100000000000 then
   r8new_l1 c k ((wi (y1.1 + 1)), (y1.2 ++ [r20]))
   else none
  else
  some (y1.1, y1.2)
def r8new_s (c : Cfg) : Option ((MemV × (List RecV))) :=
 bT (r2new_s (r6cells_s c)) fun r2 =>
 (r8new_l1 c (c.tasks.toNat + 1) (0, [])).bind fun z1 =>
 some (r2, z1.2)
theorem r8new_ok {o : (MemV × (List RecV))} (hs : r8new_s c = some o) (l : CfgAt)  (B : Nat) (W : World)  : Fn_ Tryz.prog 25 #[.agg #[vi c.workers, vi c.levels, vi c.classes, vi c.tasks, vi c.deque, vi c.heap, vi c.batch, vi c.age, vi c.patience, .slice l.pa c.progs.length l.pc, .slice l.sa c.subs.length l.sc]] B W [] (X := Nat) (fun x => vp x 0) (fun x => [cP x c l, memS x 11 o.1, pts x 17 [zi], pts x 18 [zi], rcsS x 19 o.2, evsS x 20 ([])]) := by
 unfold r8new_s at hs
 refine fe1 Tryz.func25 28 rfl (fun F => ?_)
 refine q2 (rn (ot_box m0 (us := [vi c.workers, vi c.levels, vi c.classes, vi c.tasks, vi c.deque, vi c.heap, vi c.batch, vi c.age, vi c.patience, .slice l.pa c.progs.length l.pc, .slice l.sa c.subs.length l.sc]) rfl) ?_)
 rintro b1
 refine zp (asg .const) (q1 (cS ?_))
 obtain ⟨r2, hr2, hs⟩ := bF hs
 refine ct_cutE (fun a_ w_ => ∃ (b4 : Nat) (A3 : Option Addr) (c3 : Nat), Sta 28 B W [(3, vp b4 0), (2, .pointer none), (1, vp b1 0)] (pts b4 0 [vi c.workers, vi c.levels, vi c.classes, vi c.tasks, vi c.deque, vi c.heap, vi c.batch, vi c.age, vi c.patience, .slice l.pa c.progs.length l.pc, .slice l.sa c.subs.length l.sc, .slice A3 r2.cells.length c3, vi r2.last.kind, vi r2.last.cell, vu r2.last.old, vu r2.last.new, vi r2.count, zi, zi, .slice none 0 0, .slice none 0 0] :: rowS A3 r2.cells.length c3 1 (r2.cells.map (Value.int .u64)) :: cP b1 c l :: [F]) a_ w_) ?_ ?_
 ·refine ca 7 ?_
  refine x2 0 1 ?_ ?_
  ·refine zs rfl (lda 0 m1 e0) ?_
   refine za 1 rfl (lda 0 m2 e0) ?_
   refine za 2 rfl (cq (.cons m0 .nil) (r6cells_ok (o := r6cells_s c) rfl l _ _) pn) ?_
   refine tn 3 rfl (co (.cons m0 .nil) (r2new_ok hr2  _ _) pn) ?_
   rintro ⟨A10, c10⟩
   refine zt 4 rfl (op_build (v := .agg #[vi c.workers, vi c.levels, vi c.classes, vi c.tasks, vi c.deque, vi c.heap, vi c.batch, vi c.age, vi c.patience, .slice l.pa c.progs.length l.pc, .slice l.sa c.subs.length l.sc, .slice A10 r2.cells.length c10, vi r2.last.kind, vi r2.last.cell, vu r2.last.old, vu r2.last.new, vi r2.count, zi, zi, .slice none 0 0, .slice none 0 0]) (.cons m3 (.cons m0 .nil)) (fun _ => by kernel_rfl)) ?_
   refine tn 5 rfl (ot_box m0 (us := [vi c.workers, vi c.levels, vi c.classes, vi c.tasks, vi c.deque, vi c.heap, vi c.batch, vi c.age, vi c.patience, .slice l.pa c.progs.length l.pc, .slice l.sa c.subs.length l.sc, .slice A10 r2.cells.length c10, vi r2.last.kind, vi r2.last.cell, vu r2.last.old, vu r2.last.new, vi r2.count, zi, zi, .slice none 0 0, .slice none 0 0]) rfl) ?_
   rintro b11
   refine zt 6 rfl (asg m0) ?_
   refine zz ?_
   exact fun _ _ s_ => ⟨b11, A10, c10, et_sta (lc e0 (lc e7 (lc e8 .nil))) Ent.refl s_⟩
  refine zs rfl (lda 0 m1 e0) ?_
  refine x2 0 2 ?_ ?_
  ·refine zs rfl (lda 0 m2 e0) ?_
   refine za 2 rfl (cq (.cons m1 .nil) (r6cells_ok (o := r6cells_s c) rfl l _ _) pn) ?_
   refine tn 3 rfl (co (.cons m0 .nil) (r2new_ok hr2  _ _) pn) ?_
   rintro ⟨A12, c12⟩
   refine zt 4 rfl (op_build (v := .agg #[vi c.workers, vi c.levels, vi c.classes, vi c.tasks, vi c.deque, vi c.heap, vi c.batch, vi c.age, vi c.patience, .slice l.pa c.progs.length l.pc, .slice l.sa c.subs.length l.sc, .slice A12 r2.cells.length c12, vi r2.last.kind, vi r2.last.cell, vu r2.last.old, vu r2.last.new, vi r2.count, zi, zi, .slice none 0 0, .slice none 0 0]) (.cons m2 (.cons m0 .nil)) (fun _ => by kernel_rfl)) ?_
   refine tn 5 rfl (ot_box m0 (us := [vi c.workers, vi c.levels, vi c.classes, vi c.tasks, vi c.deque, vi c.heap, vi c.batch, vi c.age, vi c.patience, .slice l.pa c.progs.length l.pc, .slice l.sa c.subs.length l.sc, .slice A12 r2.cells.length c12, vi r2.last.kind, vi r2.last.cell, vu r2.last.old, vu r2.last.new, vi r2.count, zi, zi, .slice none 0 0, .slice none 0 0]) rfl) ?_
   rintro b13
   refine zt 6 rfl (asg m0) ?_
   refine zz ?_
   exact fun _ _ s_ => ⟨b13, A12, c12, et_sta (lc e0 (lc e7 (lc e8 .nil))) Ent.refl s_⟩
  refine zs rfl (cq (.cons m0 .nil) (r6cells_ok (o := r6cells_s c) rfl l _ _) pn) ?_
  refine x2 0 3 ?_ ?_
  ·refine zs rfl (lda 0 m3 e0) ?_
   refine tn 3 rfl (co (.cons m1 .nil) (r2new_ok hr2  _ _) pn) ?_
   rintro ⟨A14, c14⟩
   refine zt 4 rfl (op_build (v := .agg #[vi c.workers, vi c.levels, vi c.classes, vi c.tasks, vi c.deque, vi c.heap, vi c.batch, vi c.age, vi c.patience, .slice l.pa c.progs.length l.pc, .slice l.sa c.subs.length l.sc, .slice A14 r2.cells.length c14, vi r2.last.kind, vi r2.last.cell, vu r2.last.old, vu r2.last.new, vi r2.count, zi, zi, .slice none 0 0, .slice none 0 0]) (.cons m1 (.cons m0 .nil)) (fun _ => by kernel_rfl)) ?_
   refine tn 5 rfl (ot_box m0 (us := [vi c.workers, vi c.levels, vi c.classes, vi c.tasks, vi c.deque, vi c.heap, vi c.batch, vi c.age, vi c.patience, .slice l.pa c.progs.length l.pc, .slice l.sa c.subs.length l.sc, .slice A14 r2.cells.length c14, vi r2.last.kind, vi r2.last.cell, vu r2.last.old, vu r2.last.new, vi r2.count, zi, zi, .slice none 0 0, .slice none 0 0]) rfl) ?_
   rintro b15
   refine zt 6 rfl (asg m0) ?_
   refine zz ?_
   exact fun _ _ s_ => ⟨b15, A14, c14, et_sta (lc e0 (lc e7 (lc e8 .nil))) Ent.refl s_⟩
  refine un rfl (co (.cons m0 .nil) (r2new_ok hr2  _ _) pn) ?_
  rintro ⟨A16, c16⟩
  refine za 0 rfl (lda 0 m4 e1) ?_
  refine zt 4 rfl (op_build (v := .agg #[vi c.workers, vi c.levels, vi c.classes, vi c.tasks, vi c.deque, vi c.heap, vi c.batch, vi c.age, vi c.patience, .slice l.pa c.progs.length l.pc, .slice l.sa c.subs.length l.sc, .slice A16 r2.cells.length c16, vi r2.last.kind, vi r2.last.cell, vu r2.last.old, vu r2.last.new, vi r2.count, zi, zi, .slice none 0 0, .slice none 0 0]) (.cons m0 (.cons m1 .nil)) (fun _ => by kernel_rfl)) ?_
  refine tn 5 rfl (ot_box m0 (us := [vi c.workers, vi c.levels, vi c.classes, vi c.tasks, vi c.deque, vi c.heap, vi c.batch, vi c.age, vi c.patience, .slice l.pa c.progs.length l.pc, .slice l.sa c.subs.length l.sc, .slice A16 r2.cells.length c16, vi r2.last.kind, vi r2.last.cell, vu r2.last.old, vu r2.last.new, vi r2.count, zi, zi, .slice none 0 0, .slice none 0 0]) rfl) ?_
  rintro b17
  refine zt 6 rfl (asg m0) ?_
  refine zz ?_
  exact fun _ _ s_ => ⟨b17, A16, c16, et_sta (lc e0 (lc e7 (lc e8 .nil))) Ent.refl s_⟩
 rintro a_ w_ ⟨b4, A3, c3, hst⟩
 refine (?_ : CT _ _ _ _ _ _ _ _ _) a_ w_ hst
 clear hst
 refine cS (cS (cE (env_split (m := r2) (vs := [vi c.workers, vi c.levels, vi c.classes, vi c.tasks, vi c.deque, vi c.heap, vi c.batch, vi c.age, vi c.patience, .slice l.pa c.progs.length l.pc, .slice l.sa c.subs.length l.sc]) rfl) (cR (zp (asg .const) (q1 ?_)))))
 obtain ⟨z1, hz1, hs⟩ := bO_of hs
 refine ct_cutG (S := Int × (List RecV)) (G := Unit) (fun zw => z1 = zw) (fun z1 _ => [(3, vp b4 0), (2, .pointer none)]) (fun z1 _ => cP b4 c l :: memS b4 11 r2 :: pts b4 17 [zi] :: pts b4 18 [zi] :: rcsS b4 19 z1.2 :: evsS b4 20 ([]) :: cP b1 c l :: [F]) ?_ (fun z1w _ hy1 => (?_ : CT _ _ _ _ _ _ _ _ _))
 ·refine cB (ct_loopK (S := Int × (List RecV)) (G := Unit) (fun k y1 => r8new_l1 c k y1 = some z1) (fun _ h => by rw [r8new_l1] at h; cases h) (fun y1 _ => [(4, vi y1.1), (3, vp b4 0), (2, .pointer none), (1, vp b1 0)]) (fun y1 _ => cP b4 c l :: memS b4 11 r2 :: pts b4 17 [zi] :: pts b4 18 [zi] :: rcsS b4 19 y1.2 :: evsS b4 20 ([]) :: cP b1 c l :: [F]) (c.tasks.toNat + 1) (0, []) () hz1 (lc e0 (lc e1 (lc e2 (lc e3 .nil)))) Ent.refl (fun k1 y1 _ hz => ?_))
  clear hz1
  have hz1 := hz; clear hz
  rw [r8new_l1] at hz1
  refine cS (q2 (zp (mv m0) (zp (fd 3 3 m4) (zq (ld 0 3 m0 e6 rfl) (zp (op_lss m2 m0) (q1 (ci hz1 m0 (fun h18 hz1 => ?_) (fun h18 hz1 => ?_))))))))
  ·refine cK (tT (cS (cB (ct_open pick4 ?_))))
   rintro ⟨A19, c19⟩
   obtain ⟨r20, hr20, hz1⟩ := bF hz1
   obtain ⟨g21, hz1⟩ := gO hz1
   refine ct_cutEY (fun a_ w_ => ∃ (A24 : Option Addr) (c24 : Nat) (b23 : Nat) (A22 : Option Addr) (c22 : Nat), Sta 28 B W [(26, vp b4 19), (25, vp b4 0), (24, .slice A24 (y1.2.length + 1) c24), (23, .slice (some ⟨b23, 0, none⟩) 1 1), (22, .agg #[vi r20.prog, vi r20.parent, vi r20.pc, vi r20.left, vi r20.waiting, .slice A22 r20.kids.length c22, .bool (r20.started)]), (21, .slice A19 y1.2.length c19), (20, vp b4 19), (19, vp b4 0), (18, vp b4 0), (17, vp b4 0), (14, .bool (decide (y1.1 < c.tasks))), (13, vi c.tasks), (12, vp b1 3), (11, vi y1.1), (4, vi y1.1), (3, vp b4 0), (2, .pointer none), (1, vp b1 0)] (recsS A24 c24 (y1.2 ++ [r20]) :: roS encInt 1 A22 c22 r20.kids :: pts b4 19 [.slice A24 (y1.2.length + 1) c24] :: cP b4 c l :: memS b4 11 r2 :: pts b4 17 [zi] :: pts b4 18 [zi] :: evsS b4 20 ([]) :: cP b1 c l :: [F]) a_ w_) ?_ ?_
   ·refine ca 11 ?_
    refine zt 0 rfl (mv m5) ?_
    refine zt 1 rfl (mv m6) ?_
    refine zt 2 rfl (nc m0) ?_
    refine zt 3 rfl (fd 19 19 m0) ?_
    refine x2 4 5 ?_ ?_
    ·refine zs rfl (ld 19 0 m0 e0 rfl) ?_
     refine tn 5 rfl (co (.cons .const (.cons .const .nil)) (r8fresh_ok hr20  _ _) pn) ?_
     rintro ⟨A30, c30⟩
     refine tn 6 rfl (ot_buildSlice (T' := 118) (us := [vi r20.prog, vi r20.parent, vi r20.pc, vi r20.left, vi r20.waiting, .slice A30 r20.kids.length c30, .bool (r20.started)]) (.cons m0 .nil) (fun _ => by kernel_rfl)) ?_
     rintro b31
     refine pkA (p1 pn) (aE ro_dup (tn 7 rfl (ot_appendI (by_ := 72) (zz := .agg #[zi, zi, zi, zi, zi, .slice none 0 0, .bool false]) (xv := r20) (A' := A30) (c' := c30) recC_len m2 m0 (p4 (p2 (p0 .nil))) rfl rfl Tryz.underlying55 (infoB_of (by kernel_rfl)) rfl (by decide) rfl (by unfold maxLen; omega) (by omega)) ?_))
     rintro ⟨A32, c32⟩
     refine zt 8 rfl (nc m7) ?_
     refine zt 9 rfl (fd 19 19 m0) ?_
     refine tz 10 rfl (st1 19 w0 m0 m2 t2) ?_
     refine zz ?_
     exact fun _ _ s_ => ⟨A32, c32, b31, A30, c30, et_sta (lc e0 (lc e1 (lc e2 (lc e3 (lc e4 (lc e5 (lc e6 (lc e7 (lc e8 (lc e9 (lc e10 (lc e11 (lc e12 (lc e13 (lc e14 (lc e15 (lc e16 (lc e17 .nil)))))))))))))))))) Ent.refl s_⟩
    refine un rfl (co (.cons .const (.cons .const .nil)) (r8fresh_ok hr20  _ _) pn) ?_
    rintro ⟨A33, c33⟩
    refine x2 4 6 ?_ ?_
    ·refine zs rfl (ld 19 0 m1 e1 rfl) ?_
     refine tn 6 rfl (ot_buildSlice (T' := 118) (us := [vi r20.prog, vi r20.parent, vi r20.pc, vi r20.left, vi r20.waiting, .slice A33 r20.kids.length c33, .bool (r20.started)]) (.cons m1 .nil) (fun _ => by kernel_rfl)) ?_
     rintro b34
     refine pkA (p1 pn) (aE ro_dup (tn 7 rfl (ot_appendI (by_ := 72) (zz := .agg #[zi, zi, zi, zi, zi, .slice none 0 0, .bool false]) (xv := r20) (A' := A33) (c' := c33) recC_len m1 m0 (p4 (p2 (p0 .nil))) rfl rfl Tryz.underlying55 (infoB_of (by kernel_rfl)) rfl (by decide) rfl (by unfold maxLen; omega) (by omega)) ?_))
     rintro ⟨A35, c35⟩
     refine zt 8 rfl (nc m7) ?_
     refine zt 9 rfl (fd 19 19 m0) ?_
     refine tz 10 rfl (st1 19 w0 m0 m2 t2) ?_
     refine zz ?_
     exact fun _ _ s_ => ⟨A35, c35, b34, A33, c33, et_sta (lc e0 (lc e1 (lc e2 (lc e3 (lc e5 (lc e4 (lc e6 (lc e7 (lc e8 (lc e9 (lc e10 (lc e11 (lc e12 (lc e13 (lc e14 (lc e15 (lc e16 (lc e17 .nil)))))))))))))))))) Ent.refl s_⟩
    refine un rfl (ot_buildSlice (T' := 118) (us := [vi r20.prog, vi r20.parent, vi r20.pc, vi r20.left, vi r20.waiting, .slice A33 r20.kids.length c33, .bool (r20.started)]) (.cons m0 .nil) (fun _ => by kernel_rfl)) ?_
    rintro b36
    refine za 4 rfl (ld 19 0 m2 e2 rfl) ?_
    refine pkA (p1 pn) (aE ro_dup (tn 7 rfl (ot_appendI (by_ := 72) (zz := .agg #[zi, zi, zi, zi, zi, .slice none 0 0, .bool false]) (xv := r20) (A' := A33) (c' := c33) recC_len m0 m1 (p4 (p2 (p0 .nil))) rfl rfl Tryz.underlying55 (infoB_of (by kernel_rfl)) rfl (by decide) rfl (by unfold maxLen; omega) (by omega)) ?_))
    rintro ⟨A37, c37⟩
    refine zt 8 rfl (nc m7) ?_
    refine zt 9 rfl (fd 19 19 m0) ?_
    refine tz 10 rfl (st1 19 w0 m0 m2 t2) ?_
    refine zz ?_
    exact fun _ _ s_ => ⟨A37, c37, b36, A33, c33, et_sta (lc e0 (lc e1 (lc e2 (lc e4 (lc e5 (lc e3 (lc e6 (lc e7 (lc e8 (lc e9 (lc e10 (lc e11 (lc e12 (lc e13 (lc e14 (lc e15 (lc e16 (lc e17 .nil)))))))))))))))))) Ent.refl s_⟩
   rintro a_ w_ ⟨A24, c24, b23, A22, c22, hst⟩
   refine (?_ : ET _ _ _ _ .normal _ _) a_ w_ hst
   clear hst
   exact tB (tT (cR (zp (mv m14) (zp (aI m0 .const) (zo (asg m0) pick16 (rN (pkE (p2 pn) (tE (rcs_shut (l := (y1.2 ++ [r20])) (by simp)) (aK ((wi (y1.1 + 1)), (y1.2 ++ [r20])) () hz1 (lc e0 (lc e17 (lc e18 (lc e19 lN)))) (d1 (eP (p1 (p1 (p1 (p1 (p1 pn))))))))))))))))
  refine cX (tX (tX (bH ?_)))
  obtain rfl := sI hz1
  exact aK (y1.1, y1.2) () rfl (lc e5 (lc e6 lN)) Ent.refl
 subst hy1
 refine q2 (zp (mv m0) (zo (asg m0) pick2 (q4 ?_)))
 obtain rfl := sI hs
 exact et_fn (vs := [vp b4 0]) b4 rfl (.cons e0 .nil) rfl (d1 (eP (p6 pn)))
def x28new_l1 (c : Cfg) : Nat → Int × (List MaV) → Option (Int × (List MaV))
 | 0, _ => none
 | k + 1, y1 =>
  if y1.1 < c.workers then
   if c.tasks ≠ 0 then
   bT (r8make_s (⟨25, 0, (⟨0, 0, 0, 0⟩ : QV), y1.1, 0, 0, 0, (Int.tmod y1.1 c.tasks), 0, 0, 0, 0, 0, 0, []⟩ : FrV)) fun r8 =>
   if (((y1.2.length + 1 : Nat)) : Int) < 100000000000 then
   x28new_l1 c k ((wi (y1.1 + 1)), (y1.2 ++ [r8]))
   else none
   else none
  else
  some (y1.1, y1.2)
def x28new_s (c : Cfg) : Option ((MemV × (List RecV) × (List MaV))) :=
 (r8new_s c).bind fun r2 =>
 (x28new_l1 c (c.workers.toNat + 1) (0, [])).bind fun z1 =>
 bT (r8make_s (⟨26, 0, (⟨0, 0, 0, 0⟩ : QV), 0, 0, 0, 0, 0, 0, 0, 0, 0, 0, 0, []⟩ : FrV)) fun r31 =>
 if (((z1.2.length + 1 : Nat)) : Int) < 100000000000 then
 some (r2.1, r2.2, (z1.2 ++ [r31]))
 else none
theorem x28new_ok {o : (MemV × (List RecV) × (List MaV))} (hs : x28new_s c = some o) (l : CfgAt)  (B : Nat) (W : World)  : Fn_ Tryz.prog 9 #[.agg #[vi c.workers, vi c.levels, vi c.classes, vi c.tasks, vi c.deque, vi c.heap, vi c.batch, vi c.age, vi c.patience, .slice l.pa c.progs.length l.pc, .slice l.sa c.subs.length l.sc]] B W [] (X := Nat × Nat) (fun x => .pointer (some ⟨x.1, 0, none⟩)) (fun x => [pts x.1 0 [.pointer (some ⟨x.2, 0, none⟩)], mssS x.1 1 o.2.2, pts x.1 2 [zi], stpS x.1 3 ([]), pts x.1 4 [zi, zi, vu 0, vu 0], pts x.2 0 [vi c.workers, vi c.levels, vi c.classes, vi c.tasks, vi c.deque, vi c.heap, vi c.batch, vi c.age, vi c.patience, .slice l.pa c.progs.length l.pc, .slice l.sa c.subs.length l.sc], memS x.2 11 o.1, pts x.2 17 [zi], pts x.2 18 [zi], rcsS x.2 19 o.2.1, evsS x.2 20 ([])]) := by
 unfold x28new_s at hs
 refine fe1 Tryz.func9 43 rfl (fun F => ?_)
 refine q2 (rn (ot_box m0 (us := [vi c.workers, vi c.levels, vi c.classes, vi c.tasks, vi c.deque, vi c.heap, vi c.batch, vi c.age, vi c.patience, .slice l.pa c.progs.length l.pc, .slice l.sa c.subs.length l.sc]) rfl) ?_)
 rintro b1
 refine zp (asg .const) (q3 (zq (lda 0 m1 e0) ?_))
 obtain ⟨r2, hr2, hs⟩ := bO_of hs
 refine rn (co (.cons m0 .nil) (r8new_ok hr2 l _ _) pn) ?_
 rintro b3
 refine zp (op_build (v := .agg #[vp b3 0, .slice none 0 0, zi, .slice none 0 0, zi, zi, vu 0, vu 0]) (.cons m0 .nil) (fun _ => by kernel_rfl)) (rn (ot_box m0 (us := [vp b3 0, .slice none 0 0, zi, .slice none 0 0, zi, zi, vu 0, vu 0]) rfl) ?_)
 rintro b4
 refine zp (asg m0) (q1 (cS (cS (cE (eng_split (e := b3) (vs := [zi, zi, vu 0, vu 0])) (cR (zp (asg .const) (q1 ?_)))))))
 obtain ⟨z1, hz1, hs⟩ := bO_of hs
 refine ct_cutG (S := Int × (List MaV)) (G := Unit) (fun zw => z1 = zw) (fun z1 _ => [(3, vp b4 0), (2, .pointer none)]) (fun z1 _ => pts b4 0 [vp b3 0] :: mssS b4 1 z1.2 :: pts b4 2 [zi] :: stpS b4 3 ([]) :: pts b4 4 [zi, zi, vu 0, vu 0] :: cP b3 c l :: memS b3 11 r2.1 :: pts b3 17 [zi] :: pts b3 18 [zi] :: rcsS b3 19 r2.2 :: evsS b3 20 ([]) :: cP b1 c l :: [F]) ?_ (fun z1w _ hy1 => (?_ : CT _ _ _ _ _ _ _ _ _))
 ·refine cB (ct_loopK (S := Int × (List MaV)) (G := Unit) (fun k y1 => x28new_l1 c k y1 = some z1) (fun _ h => by rw [x28new_l1] at h; cases h) (fun y1 _ => [(4, vi y1.1), (3, vp b4 0), (2, .pointer none), (1, vp b1 0)]) (fun y1 _ => pts b4 0 [vp b3 0] :: mssS b4 1 y1.2 :: pts b4 2 [zi] :: stpS b4 3 ([]) :: pts b4 4 [zi, zi, vu 0, vu 0] :: cP b3 c l :: memS b3 11 r2.1 :: pts b3 17 [zi] :: pts b3 18 [zi] :: rcsS b3 19 r2.2 :: evsS b3 20 ([]) :: cP b1 c l :: [F]) (c.workers.toNat + 1) (0, []) () hz1 (lc e0 (lc e1 (lc e6 (lc e7 .nil)))) Ent.refl (fun k1 y1 _ hz => ?_))
  clear hz1
  have hz1 := hz; clear hz
  rw [x28new_l1] at hz1
  refine cS (q2 (zp (mv m0) (zp (fd 0 0 m4) (zq (ld 0 0 m0 e11 rfl) (zp (op_lss m2 m0) (q1 (ci hz1 m0 (fun h5 hz1 => ?_) (fun h5 hz1 => ?_))))))))
  ·refine cK (tT (cS (cB (ct_open pick1 ?_))))
   rintro ⟨A6, c6⟩
   obtain ⟨g7, hz1⟩ := gO hz1
   obtain ⟨r8, hr8, hz1⟩ := bF hz1
   obtain ⟨g9, hz1⟩ := gO hz1
   refine ct_cutEY (fun a_ w_ => ∃ (A12 : Option Addr) (c12 : Nat) (b11 : Nat) (b10 : Nat), Sta 43 B W [(30, vp b4 1), (29, vp b4 0), (28, .slice A12 (y1.2.length + 1) c12), (27, .slice (some ⟨b11, 0, none⟩) 1 1), (26, vp b10 0), (25, .agg #[vi 25, zi, zi, zi, zi, zi, vi y1.1, zi, zi, zi, vi ((Int.tmod y1.1 c.tasks)), zi, zi, vu 0, vu 0, vu 0, vu 0, .slice none 0 0]), (24, vi ((Int.tmod y1.1 c.tasks))), (23, vi c.tasks), (19, .slice A6 y1.2.length c6), (22, vp b1 3), (21, vi y1.1), (20, vi y1.1), (18, vp b4 1), (17, vp b4 0), (16, vp b4 0), (15, vp b4 0), (12, .bool (decide (y1.1 < c.workers))), (11, vi c.workers), (10, vp b1 0), (9, vi y1.1), (4, vi y1.1), (3, vp b4 0), (2, .pointer none), (1, vp b1 0)] (msS A12 c12 (y1.2 ++ [r8]) :: roS encInt 1 none 0 ([]) :: pts b4 1 [.slice A12 (y1.2.length + 1) c12] :: pts b4 0 [vp b3 0] :: pts b4 2 [zi] :: stpS b4 3 ([]) :: pts b4 4 [zi, zi, vu 0, vu 0] :: cP b3 c l :: memS b3 11 r2.1 :: pts b3 17 [zi] :: pts b3 18 [zi] :: rcsS b3 19 r2.2 :: evsS b3 20 ([]) :: cP b1 c l :: [F]) a_ w_) ?_ ?_
   ·refine ca 17 ?_
    refine zt 0 rfl (mv m5) ?_
    refine zt 1 rfl (mv m6) ?_
    refine zt 2 rfl (nc m0) ?_
    refine zt 3 rfl (fd 1 1 m0) ?_
    refine zt 5 rfl (mv m8) ?_
    refine zt 6 rfl (mv m9) ?_
    refine zt 7 rfl (fd 3 3 m13) ?_
    refine x2 4 8 ?_ ?_
    ·refine zs rfl (ld 1 0 m3 e0 rfl) ?_
     refine za 8 rfl (ld 0 3 m1 e12 rfl) ?_
     refine zt 9 rfl (op_remI m3 m0 g7) ?_
     refine zt 10 rfl (op_build (v := .agg #[vi 25, zi, zi, zi, zi, zi, vi y1.1, zi, zi, zi, vi ((Int.tmod y1.1 c.tasks)), zi, zi, vu 0, vu 0, vu 0, vu 0, .slice none 0 0]) (.cons .const (.cons m5 (.cons m0 .nil))) (fun _ => by kernel_rfl)) ?_
     refine aE (ro_nil (enc := encInt) (sz := 1) (A := none) (c := 0)) (tn 11 rfl (co (.cons m0 .nil) (r8make_ok hr8 none 0 _ _) (p0 pn)) ?_)
     rintro b19
     refine tn 12 rfl (ot_buildSlice (T' := 70) (us := [vp b19 0]) (.cons m0 .nil) (fun _ => by kernel_rfl)) ?_
     rintro b20
     refine tn 13 rfl (ot_appendM (by_ := 8) (zz := .pointer none) (mv := r8) m5 m0 (p4 (p0 (p0 .nil))) rfl Tryz.underlying60 (infoB_of (by kernel_rfl)) rfl (by unfold maxLen; omega) (by omega)) ?_
     rintro ⟨A21, c21⟩
     refine zt 14 rfl (nc m13) ?_
     refine zt 15 rfl (fd 1 1 m0) ?_
     refine tz 16 rfl (st1 1 w0 m0 m2 t2) ?_
     refine zz ?_
     exact fun _ _ s_ => ⟨A21, c21, b20, b19, et_sta (lc e0 (lc e1 (lc e2 (lc e3 (lc e4 (lc e5 (lc e6 (lc e7 (lc e8 (lc e9 (lc e10 (lc e11 (lc e12 (lc e13 (lc e14 (lc e15 (lc e16 (lc e17 (lc e18 (lc e19 (lc (eU e0) (lc (eU e1) (lc (eU e2) (lc (eU e3) .nil)))))))))))))))))))))))) Ent.refl s_⟩
    refine zs rfl (ld 0 3 m0 e12 rfl) ?_
    refine zt 9 rfl (op_remI m2 m0 g7) ?_
    refine zt 10 rfl (op_build (v := .agg #[vi 25, zi, zi, zi, zi, zi, vi y1.1, zi, zi, zi, vi ((Int.tmod y1.1 c.tasks)), zi, zi, vu 0, vu 0, vu 0, vu 0, .slice none 0 0]) (.cons .const (.cons m4 (.cons m0 .nil))) (fun _ => by kernel_rfl)) ?_
    refine x2 4 11 ?_ ?_
    ·refine zs rfl (ld 1 0 m6 e0 rfl) ?_
     refine aE (ro_nil (enc := encInt) (sz := 1) (A := none) (c := 0)) (tn 11 rfl (co (.cons m1 .nil) (r8make_ok hr8 none 0 _ _) (p0 pn)) ?_)
     rintro b22
     refine tn 12 rfl (ot_buildSlice (T' := 70) (us := [vp b22 0]) (.cons m0 .nil) (fun _ => by kernel_rfl)) ?_
     rintro b23
     refine tn 13 rfl (ot_appendM (by_ := 8) (zz := .pointer none) (mv := r8) m2 m0 (p4 (p0 (p0 .nil))) rfl Tryz.underlying60 (infoB_of (by kernel_rfl)) rfl (by unfold maxLen; omega) (by omega)) ?_
     rintro ⟨A24, c24⟩
     refine zt 14 rfl (nc m13) ?_
     refine zt 15 rfl (fd 1 1 m0) ?_
     refine tz 16 rfl (st1 1 w0 m0 m2 t2) ?_
     refine zz ?_
     exact fun _ _ s_ => ⟨A24, c24, b23, b22, et_sta (lc e0 (lc e1 (lc e2 (lc e3 (lc e4 (lc e6 (lc e7 (lc e8 (lc e5 (lc e9 (lc e10 (lc e11 (lc e12 (lc e13 (lc e14 (lc e15 (lc e16 (lc e17 (lc e18 (lc e19 (lc (eU e0) (lc (eU e1) (lc (eU e2) (lc (eU e3) .nil)))))))))))))))))))))))) Ent.refl s_⟩
    refine uE (ro_nil (enc := encInt) (sz := 1) (A := none) (c := 0)) (un rfl (co (.cons m0 .nil) (r8make_ok hr8 none 0 _ _) (p0 pn)) ?_)
    rintro b25
    refine x2 4 12 ?_ ?_
    ·refine zs rfl (ld 1 0 m7 e2 rfl) ?_
     refine tn 12 rfl (ot_buildSlice (T' := 70) (us := [vp b25 0]) (.cons m1 .nil) (fun _ => by kernel_rfl)) ?_
     rintro b26
     refine tn 13 rfl (ot_appendM (by_ := 8) (zz := .pointer none) (mv := r8) m1 m0 (p4 (p0 (p0 .nil))) rfl Tryz.underlying60 (infoB_of (by kernel_rfl)) rfl (by unfold maxLen; omega) (by omega)) ?_
     rintro ⟨A27, c27⟩
     refine zt 14 rfl (nc m13) ?_
     refine zt 15 rfl (fd 1 1 m0) ?_
     refine tz 16 rfl (st1 1 w0 m0 m2 t2) ?_
     refine zz ?_
     exact fun _ _ s_ => ⟨A27, c27, b26, b25, et_sta (lc e0 (lc e1 (lc e2 (lc e3 (lc e5 (lc e6 (lc e7 (lc e8 (lc e4 (lc e9 (lc e10 (lc e11 (lc e12 (lc e13 (lc e14 (lc e15 (lc e16 (lc e17 (lc e18 (lc e19 (lc (eU e0) (lc (eU e1) (lc (eU e2) (lc (eU e3) .nil)))))))))))))))))))))))) Ent.refl s_⟩
    refine un rfl (ot_buildSlice (T' := 70) (us := [vp b25 0]) (.cons m0 .nil) (fun _ => by kernel_rfl)) ?_
    rintro b28
    refine za 4 rfl (ld 1 0 m8 e3 rfl) ?_
    refine tn 13 rfl (ot_appendM (by_ := 8) (zz := .pointer none) (mv := r8) m0 m1 (p4 (p0 (p0 .nil))) rfl Tryz.underlying60 (infoB_of (by kernel_rfl)) rfl (by unfold maxLen; omega) (by omega)) ?_
    rintro ⟨A29, c29⟩
    refine zt 14 rfl (nc m13) ?_
    refine zt 15 rfl (fd 1 1 m0) ?_
    refine tz 16 rfl (st1 1 w0 m0 m2 t2) ?_
    refine zz ?_
    exact fun _ _ s_ => ⟨A29, c29, b28, b25, et_sta (lc e0 (lc e1 (lc e2 (lc e4 (lc e5 (lc e6 (lc e7 (lc e8 (lc e3 (lc e9 (lc e10 (lc e11 (lc e12 (lc e13 (lc e14 (lc e15 (lc e16 (lc e17 (lc e18 (lc e19 (lc (eU e0) (lc (eU e1) (lc (eU e2) (lc (eU e3) .nil)))))))))))))))))))))))) Ent.refl s_⟩
   rintro a_ w_ ⟨A12, c12, b11, b10, hst⟩
   refine (?_ : ET _ _ _ _ .normal _ _) a_ w_ hst
   clear hst
   exact tB (tT (cR (zp (mv (mU m0)) (zp (aI m0 .const) (zo (asg m0) (pickU pick2) (rN (pkE (p2 pn) (tE (mss_shut (l := (y1.2 ++ [r8])) (by simp)) (aK ((wi (y1.1 + 1)), (y1.2 ++ [r8])) () hz1 (lc e0 (lc (eU e3) (lc (eU e4) (lc (eU e5) lN)))) (d1 (eP (p1 (p1 pn)))))))))))))
  refine cX (tX (tX (bH ?_)))
  obtain rfl := sI hz1
  exact aK (y1.1, y1.2) () rfl (lc e5 (lc e6 lN)) Ent.refl
 subst hy1
 refine cS (ct_open pick1 ?_)
 rintro ⟨A30, c30⟩
 obtain ⟨r31, hr31, hs⟩ := bF hs
 obtain ⟨g32, hs⟩ := gO hs
 refine ct_cutG (S := Option Addr) (G := Nat) (fun _ => True) (fun A35 c35 => [(3, vp b4 0), (2, .pointer none)]) (fun A35 c35 => msS A35 c35 (z1.2 ++ [r31]) :: roS encInt 1 none 0 ([]) :: pts b4 1 [.slice A35 (z1.2.length + 1) c35] :: pts b4 0 [vp b3 0] :: pts b4 2 [zi] :: stpS b4 3 ([]) :: pts b4 4 [zi, zi, vu 0, vu 0] :: cP b3 c l :: memS b3 11 r2.1 :: pts b3 17 [zi] :: pts b3 18 [zi] :: rcsS b3 19 r2.2 :: evsS b3 20 ([]) :: cP b1 c l :: [F]) ?_ (fun A35 c35 _ => (?_ : CT _ _ _ _ _ _ _ _ _))
 ·refine ca 12 ?_
  refine zt 0 rfl (mv m0) ?_
  refine zt 1 rfl (mv m1) ?_
  refine zt 2 rfl (nc m0) ?_
  refine zt 3 rfl (fd 1 1 m0) ?_
  refine zt 5 rfl (op_build (v := .agg #[vi 26, zi, zi, zi, zi, zi, zi, zi, zi, zi, zi, zi, zi, vu 0, vu 0, vu 0, vu 0, .slice none 0 0]) (.cons .const .nil) (fun _ => by kernel_rfl)) ?_
  refine x2 4 6 ?_ ?_
  ·refine zs rfl (ld 1 0 m1 e0 rfl) ?_
   refine aE (ro_nil (enc := encInt) (sz := 1) (A := none) (c := 0)) (tn 6 rfl (co (.cons m1 .nil) (r8make_ok hr31 none 0 _ _) (p0 pn)) ?_)
   rintro b41
   refine tn 7 rfl (ot_buildSlice (T' := 70) (us := [vp b41 0]) (.cons m0 .nil) (fun _ => by kernel_rfl)) ?_
   rintro b42
   refine tn 8 rfl (ot_appendM (by_ := 8) (zz := .pointer none) (mv := r31) m2 m0 (p4 (p0 (p0 .nil))) rfl Tryz.underlying60 (infoB_of (by kernel_rfl)) rfl (by unfold maxLen; omega) (by omega)) ?_
   rintro ⟨A43, c43⟩
   refine zt 9 rfl (nc m8) ?_
   refine zt 10 rfl (fd 1 1 m0) ?_
   refine tz 11 rfl (st1 1 w0 m0 m2 t2) ?_
   refine zz ?_
   exact aK A43 c43 trivial (lc e11 (lc e12 lN)) Ent.refl
  refine uE (ro_nil (enc := encInt) (sz := 1) (A := none) (c := 0)) (un rfl (co (.cons m0 .nil) (r8make_ok hr31 none 0 _ _) (p0 pn)) ?_)
  rintro b44
  refine x2 4 7 ?_ ?_
  ·refine zs rfl (ld 1 0 m2 e2 rfl) ?_
   refine tn 7 rfl (ot_buildSlice (T' := 70) (us := [vp b44 0]) (.cons m1 .nil) (fun _ => by kernel_rfl)) ?_
   rintro b45
   refine tn 8 rfl (ot_appendM (by_ := 8) (zz := .pointer none) (mv := r31) m1 m0 (p4 (p0 (p0 .nil))) rfl Tryz.underlying60 (infoB_of (by kernel_rfl)) rfl (by unfold maxLen; omega) (by omega)) ?_
   rintro ⟨A46, c46⟩
   refine zt 9 rfl (nc m8) ?_
   refine zt 10 rfl (fd 1 1 m0) ?_
   refine tz 11 rfl (st1 1 w0 m0 m2 t2) ?_
   refine zz ?_
   exact aK A46 c46 trivial (lc e11 (lc e12 lN)) Ent.refl
  refine un rfl (ot_buildSlice (T' := 70) (us := [vp b44 0]) (.cons m0 .nil) (fun _ => by kernel_rfl)) ?_
  rintro b47
  refine za 4 rfl (ld 1 0 m3 e3 rfl) ?_
  refine tn 8 rfl (ot_appendM (by_ := 8) (zz := .pointer none) (mv := r31) m0 m1 (p4 (p0 (p0 .nil))) rfl Tryz.underlying60 (infoB_of (by kernel_rfl)) rfl (by unfold maxLen; omega) (by omega)) ?_
  rintro ⟨A48, c48⟩
  refine zt 9 rfl (nc m8) ?_
  refine zt 10 rfl (fd 1 1 m0) ?_
  refine tz 11 rfl (st1 1 w0 m0 m2 t2) ?_
  refine zz ?_
  exact aK A48 c48 trivial (lc e11 (lc e12 lN)) Ent.refl
 refine q2 (zp (mv m0) (zo (asg m0) pick2 (q4 (pkE (p2 pn) (tE (mss_shut (l := (z1.2 ++ [r31])) (by simp)) ?_)))))
 obtain rfl := sI hs
 exact et_fn (vs := [vp b4 0]) (b4, b3) rfl (.cons e0 .nil) rfl (d2 (eP (p1 (p11 (p1 pn)))))
end
end Go.Proofs.YtpbkelpokpglaaaGreat
