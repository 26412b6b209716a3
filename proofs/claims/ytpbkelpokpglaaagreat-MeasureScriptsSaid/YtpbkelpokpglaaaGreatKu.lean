/- The reference's machines: stacks of frames, how they lie. No program occurs here. The reference, function by function: a step. -/
import Derived.Test.YtpbkelpokpglaaaGreatKj
import Derived.Test.YtpbkelpokpglaaaGreatKt
import Derived.Test.YtpbkelpokpglaaaGreatKk
import Derived.Test.YtpbkelpokpglaaaGreatRows
set_option linter.all false
namespace Go.Proofs.YtpbkelpokpglaaaGreat
section
open Go Go.RowKit
structure MaV where
  f : List FrV
  over : Bool
  code : Int
  value : Int
  deriving DecidableEq, Inhabited
theorem frC_len (f : FrV) (A : Option Addr) (c : Nat) : (frC f A c).length = 18 := rfl
theorem recC_len (f : RecV) (A : Option Addr) (c : Nat) : (recC f A c).length = 7 := rfl
def machN (b : Nat) (m : MaV) : Option Addr × Nat → List SProp := fun p => [pts b 0 [.slice p.1 m.f.length p.2, .bool m.over, .int .i64 m.code, .int .i64 m.value], frsS p.1 p.2 m.f]
def machS (b : Nat) (m : MaV) : SProp := exL (machN b m)
section
variable {r : Option Nat} {P : Program} {ops : Array Oper} {Q : Exit → Act → World → Prop} {n B : Nat} {W : World} {R R' : RList} {L L' M : List SProp} {v : Value} {x y z : Operand}
  {d : Option Tmp} {ty : TypeId} {ps : String} {af : Array Edge} {g : Option (Nat × Bool)} {T T' : TypeId} {A : Option Addr} {c : Nat}
theorem ct_cutZ {S G : Type} (Inv : S → Prop) (Rx : S → G → RList) (Lx : S → G → List SProp) {cd : Code}
    (h : CT r P (Exit.then (fun a w => ∃ y g, Inv y ∧ Sta n B W (Rx y g) (Lx y g) a w) Q) n B W cd R L) (k : ∀ y g, Inv y → ∀ a w, Sta n B W (Rx y g) (Lx y g) a w → Q .normal a w) : CT r P Q n B W cd R L := fun a w s =>
  wpIn_mono (h a w s) fun e a' w' hq => by
    cases e with
    | normal => obtain ⟨y, g, hi, hs⟩ := hq; exact k y g hi a' w' hs
    | exit id => exact hq
    | goto l => exact hq
    | ret => exact hq
    | panic ch => exact hq
    | outgrown => exact hq
theorem mach_shut {b k : Nat} {m : MaV} (hk : m.f.length = k) : Ent (pts b 0 [.slice A k c, .bool m.over, .int .i64 m.code, .int .i64 m.value] :: frsS A c m.f :: L) (machS b m :: L) := by
  subst hk; exact shut (N := machN b m) (A, c) rfl
section
variable {α : Type} {enc : α → Option Addr → Nat → List Value} {lst : α → List Int} {sz : Nat} {xs : List α}
theorem rowI_cap {w : World} (s : Sat B w L) (h : rowI enc lst sz A c xs ∈ L) : xs.length ≤ c := by
  obtain ⟨l', p⟩ := Pick.of_mem h
  obtain ⟨k, H, k1, k2, a, e, ⟨h1, _⟩, hL⟩ := s.perm p.perm
  exact h1
theorem rowI_init (henc : ∀ x A c, (enc x A c).length = sz) : Ent (rowI enc lst sz A c xs :: L) (rowI enc lst sz A c xs.dropLast :: L) := by
  rcases List.eq_nil_or_concat xs with e | ⟨l, q, e⟩
  · subst e; exact Ent.refl
  · have e' : xs = l ++ [q] := by simpa using e
    subst e'
    rw [List.dropLast_concat]
    exact rowI_pop henc
theorem rowI_take (henc : ∀ x A c, (enc x A c).length = sz) {k : Nat} : Ent (rowI enc lst sz A c xs :: L) (rowI enc lst sz A c (xs.take k) :: L) := by
  induction h : xs.length - k generalizing xs with
  | zero => rw [List.take_of_length_le (by omega)]; exact Ent.refl
  | succ m ih =>
    have h1 := ih (xs := xs.dropLast) (by simp; omega)
    have e : xs.dropLast.take k = xs.take k := by
      rw [List.dropLast_eq_take, List.take_take]; congr 1; omega
    rw [e] at h1
    exact (rowI_init henc).trans h1
theorem rowI_one (henc : ∀ x A c, (enc x A c).length = sz) {b : Nat} {us : List Value} {A' : Option Addr} {c' : Nat} {xv : α} (hu : us = enc xv A' c') : Ent (pts b 0 us :: roS encInt 1 A' c' (lst xv) :: L) (rowI enc lst sz (some ⟨b, 0, none⟩) 1 [xv] :: L) := by
  subst hu
  have h1 : Ent (pts b 0 (enc xv A' c') :: roS encInt 1 A' c' (lst xv) :: L) (rowS (some ⟨b, 0, none⟩) 1 1 sz (flatQ enc [(xv, (A', c'))]) :: lookS (heldQ lst [(xv, (A', c'))]) :: L) := by
    refine Ent.cons (fun h p => ?_) (Ent.cons (look_mono fun u hu q hq => ?_) Ent.refl)
    · have e : flatQ enc [(xv, (A', c'))] = enc xv A' c' := by simp [flatQ]
      rw [e]
      exact rowS_of_pts (by rw [henc]; omega) (by unfold maxLen; omega) h p
    · obtain rfl := List.mem_singleton.1 hq; exact hu
  exact h1.trans (flat_rowI (qs := [(xv, (A', c'))]) henc rfl)
end
end
end
section
open Go Go.RowKit
set_option maxRecDepth 100000
set_option maxHeartbeats 2000000
variable {c : Cfg} {m : MemV} {now draw : Int} {recs : List RecV} {evs : List Ev} {f : FrV}
def r8step_l2 (c : Cfg) (r51 : ResV × MemV × (List RecV) × (List Ev) × FrV) : Nat → Bool × ResV × (List Ev) × (List RecV) × MaV → Option ((Bool × MaV × MemV × (List RecV) × (List Ev)) ⊕ (Bool × ResV × (List Ev) × (List RecV) × MaV))
 | 0, _ => none
 | k + 1, y2 =>
  if y2.2.1.done = true then
   if 0 ≤ (wi (((y2.2.2.2.2.f.length : Nat) : Int) - 1)) ∧ (wi (((y2.2.2.2.2.f.length : Nat) : Int) - 1)) ≤ (y2.2.2.2.2.f.length : Int) then
   if (((y2.2.2.2.2.f.take ((wi (((y2.2.2.2.2.f.length : Nat) : Int) - 1))).toNat).length : Nat) : Int) = 0 then
    some (.inl (true, (⟨(y2.2.2.2.2.f.take ((wi (((y2.2.2.2.2.f.length : Nat) : Int) - 1))).toNat), true, y2.2.1.code, y2.2.1.value⟩ : MaV), r51.2.1, y2.2.2.2.1, y2.2.2.1))
   else
   if 0 ≤ (wi ((((y2.2.2.2.2.f.take ((wi (((y2.2.2.2.2.f.length : Nat) : Int) - 1))).toNat).length : Nat) : Int) - 1)) ∧ (wi ((((y2.2.2.2.2.f.take ((wi (((y2.2.2.2.2.f.length : Nat) : Int) - 1))).toNat).length : Nat) : Int) - 1)) < ((y2.2.2.2.2.f.take ((wi (((y2.2.2.2.2.f.length : Nat) : Int) - 1))).toNat).length : Int) then
   (r8back_s c y2.2.2.2.1 y2.2.2.1 (at_ (y2.2.2.2.2.f.take ((wi (((y2.2.2.2.2.f.length : Nat) : Int) - 1))).toNat) (wi ((((y2.2.2.2.2.f.take ((wi (((y2.2.2.2.2.f.length : Nat) : Int) - 1))).toNat).length : Nat) : Int) - 1))) y2.2.1.code y2.2.1.value).bind fun r87 =>
   r8step_l2 c r51 k (y2.1, r87.1, r87.2.2.1, r87.2.1, ({ y2.2.2.2.2 with f := (st_ (y2.2.2.2.2.f.take ((wi (((y2.2.2.2.2.f.length : Nat) : Int) - 1))).toNat) (wi ((((y2.2.2.2.2.f.take ((wi (((y2.2.2.2.2.f.length : Nat) : Int) - 1))).toNat).length : Nat) : Int) - 1)) r87.2.2.2) } : MaV))
   else none
   else none
  else
  some (.inr (y2.1, y2.2.1, y2.2.2.1, y2.2.2.2.1, y2.2.2.2.2))
def r8step_l1 (c : Cfg) (recs : List RecV) : Nat → MaV → Option (MaV)
 | 0, _ => none
 | k + 1, y1 =>
  if 0 ≤ (wi (((y1.f.length : Nat) : Int) - 1)) ∧ (wi (((y1.f.length : Nat) : Int) - 1)) < (y1.f.length : Int) then
  (r8enter_s c recs (at_ y1.f (wi (((y1.f.length : Nat) : Int) - 1)))).bind fun r5 =>
  if (!r5.2.1) = true then
   some ({ y1 with f := (st_ y1.f (wi (((y1.f.length : Nat) : Int) - 1)) r5.2.2) } : MaV)
  else
  if (((y1.f.length + 1 : Nat)) : Int) < 100000000000 then
  r8step_l1 c recs k ({ y1 with f := ((st_ y1.f (wi (((y1.f.length : Nat) : Int) - 1)) r5.2.2) ++ [({ r5.1 with line := 1 } : FrV)]) } : MaV)
  else none
  else none
def r8step_s (x : MaV) (c : Cfg) (m : MemV) (now : Int) (draw : Int) (recs : List RecV) (evs : List Ev) : Option (Bool × MaV × MemV × (List RecV) × (List Ev)) :=
 if x.over = true then
  some (true, x, m, recs, evs)
 else
 (r8step_l1 c recs 100 x).bind fun z1 =>
 if 0 ≤ (wi (((z1.f.length : Nat) : Int) - 1)) ∧ (wi (((z1.f.length : Nat) : Int) - 1)) < (z1.f.length : Int) then
 (r8leaf_s c m now draw recs evs (at_ z1.f (wi (((z1.f.length : Nat) : Int) - 1)))).bind fun r51 =>
 (r8step_l2 c r51 100 (false, r51.1, r51.2.2.2.1, r51.2.2.1, ({ z1 with f := (st_ z1.f (wi (((z1.f.length : Nat) : Int) - 1)) r51.2.2.2.2) } : MaV))).bind fun z2z => sK z2z fun z2 =>
 some (false, z2.2.2.2.2, r51.2.1, z2.2.2.2.1, z2.2.2.1)
 else none
theorem r8step_ok {x : MaV} {o : Bool × MaV × MemV × (List RecV) × (List Ev)} (hs : r8step_s x c m now draw recs evs = some o) (xb : Nat) (eb : Nat) (l : CfgAt) (pl : List (Option Addr × Nat)) (RA : Option Addr) (RC : Nat)  (B : Nat) (W : World)  : Fn_ Tryz.prog 58 #[vp xb 0, vp eb 0] B W [machS xb x, cP eb c l, cfgL c l pl, memS eb 11 m, pts eb 17 [vi now], pts eb 18 [vi draw], pts eb 19 [.slice RA recs.length RC], recsS RA RC recs, evsS eb 20 evs] (X := Unit) (fun x => .bool (o.1)) (fun x => [machS xb o.2.1, cP eb c l, cfgL c l pl, memS eb 11 o.2.2.1, pts eb 17 [vi now], pts eb 18 [vi draw], pts eb 19 [.slice RA o.2.2.2.1.length RC], recsS RA RC o.2.2.2.1, evsS eb 20 o.2.2.2.2]) := by
 unfold r8step_s at hs
 refine fe2 Tryz.func58 106 rfl (fun F => ?_)
 refine q2 (zp (asg .const) (q1 (cS (cS (ct_open pick0 ?_)))))
 rintro ⟨A1, c1⟩
 refine cR (zp (mv m1) (zp (nc m0) (zp (fd 1 1 m0) (zq (ld 0 1 m0 e0 rfl) (q1 (cj hs m0 (fun h2 hs => ?_) (fun h2 hs => ?_)))))))
 ·refine q2 (zo (asg .const) pick4 (q4 (tR (tE (mach_shut (m := x) rfl) ?_))))
  obtain rfl := sI hs
  exact et_fn () rfl (.cons e0 .nil) rfl Ent.refl
 refine cK (tT (cS (cE (mach_shut (m := x) rfl) ?_)))
 obtain ⟨z1, hz1, hs⟩ := bO_of hs
 refine ct_cutG (S := MaV) (G := Unit) (fun zw => z1 = zw) (fun z1 _ => [(4, .bool false), (0, vp xb 0), (1, vp eb 0)]) (fun z1 _ => machS xb z1 :: cP eb c l :: cfgL c l pl :: memS eb 11 m :: pts eb 17 [vi now] :: pts eb 18 [vi draw] :: pts eb 19 [.slice RA recs.length RC] :: recsS RA RC recs :: evsS eb 20 evs :: [F]) ?_ (fun z1w _ hy1 => (?_ : CT _ _ _ _ _ _ _ _ _))
 ·refine cB (ct_loopK (S := MaV) (G := Unit) (fun k y1 => r8step_l1 c recs k y1 = some z1) (fun _ h => by rw [r8step_l1] at h; cases h) (fun y1 _ => [(4, .bool false), (0, vp xb 0), (1, vp eb 0)]) (fun y1 _ => machS xb y1 :: cP eb c l :: cfgL c l pl :: memS eb 11 m :: pts eb 17 [vi now] :: pts eb 18 [vi draw] :: pts eb 19 [.slice RA recs.length RC] :: recsS RA RC recs :: evsS eb 20 evs :: [F]) 100 x () hz1 (lc e4 (lc e5 (lc e6 .nil))) Ent.refl (fun k1 y1 _ hz => ?_))
  clear hz1
  have hz1 := hz; clear hz
  rw [r8step_l1] at hz1
  refine cB (cS (ct_open pick0 ?_))
  rintro ⟨A3, c3⟩
  obtain ⟨g4, hz1⟩ := gO hz1
  obtain ⟨r5, hr5, hz1⟩ := bO_of hz1
  refine ct_cutE (fun a_ w_ => ∃ (b9 : Nat) (A8 : Option Addr) (c8 : Nat) (rb6 : Nat) (ro6 : Nat), Sta 106 B W [(6, .bool (r5.2.1)), (5, vp b9 0), (27, .bool (r5.2.1)), (26, .agg #[vi r5.1.kind, vi r5.1.line, vi r5.1.q.top, vi r5.1.q.bottom, vi r5.1.q.ring, vi r5.1.q.cap, vi r5.1.a, vi r5.1.b, vi r5.1.d, vi r5.1.i, vi r5.1.j, vi r5.1.n, vi r5.1.t, vu r5.1.u, vu r5.1.v, vu r5.1.w, vu r5.1.x, .slice A8 r5.1.l.length c8]), (12, .tuple #[.agg #[vi r5.1.kind, vi r5.1.line, vi r5.1.q.top, vi r5.1.q.bottom, vi r5.1.q.ring, vi r5.1.q.cap, vi r5.1.a, vi r5.1.b, vi r5.1.d, vi r5.1.i, vi r5.1.j, vi r5.1.n, vi r5.1.t, vu r5.1.u, vu r5.1.v, vu r5.1.w, vu r5.1.x, .slice A8 r5.1.l.length c8], .bool (r5.2.1)]), (25, .tuple #[.agg #[vi r5.1.kind, vi r5.1.line, vi r5.1.q.top, vi r5.1.q.bottom, vi r5.1.q.ring, vi r5.1.q.cap, vi r5.1.a, vi r5.1.b, vi r5.1.d, vi r5.1.i, vi r5.1.j, vi r5.1.n, vi r5.1.t, vu r5.1.u, vu r5.1.v, vu r5.1.w, vu r5.1.x, .slice A8 r5.1.l.length c8], .bool (r5.2.1)]), (24, vp rb6 (ro6 + ((wi (((y1.f.length : Nat) : Int) - 1))).toNat * 18)), (23, vi ((wi (((y1.f.length : Nat) : Int) - 1)))), (22, vi (((y1.f.length : Nat) : Int))), (21, .slice (some ⟨rb6, ro6, none⟩) y1.f.length c3), (17, .slice (some ⟨rb6, ro6, none⟩) y1.f.length c3), (20, vp xb 0), (19, vp xb 0), (18, vp xb 0), (16, vp xb 0), (15, vp xb 0), (14, vp xb 0), (13, vp eb 0), (4, .bool false), (0, vp xb 0), (1, vp eb 0)] (frsS (some ⟨rb6, ro6, none⟩) c3 (st_ y1.f (wi (((y1.f.length : Nat) : Int) - 1)) r5.2.2) :: pts b9 0 [vi r5.1.kind, vi r5.1.line, vi r5.1.q.top, vi r5.1.q.bottom, vi r5.1.q.ring, vi r5.1.q.cap, vi r5.1.a, vi r5.1.b, vi r5.1.d, vi r5.1.i, vi r5.1.j, vi r5.1.n, vi r5.1.t, vu r5.1.u, vu r5.1.v, vu r5.1.w, vu r5.1.x, .slice A8 r5.1.l.length c8] :: roS encInt 1 A8 c8 r5.1.l :: cP eb c l :: cfgL c l pl :: pts eb 19 [.slice RA recs.length RC] :: recsS RA RC recs :: pts xb 0 [.slice (some ⟨rb6, ro6, none⟩) y1.f.length c3, .bool (y1.over), vi y1.code, vi y1.value] :: memS eb 11 m :: pts eb 17 [vi now] :: pts eb 18 [vi draw] :: evsS eb 20 evs :: [F]) a_ w_) ?_ ?_
  ·refine ca 19 ?_
   refine at_key (X := fun A_ => ∀ (b12 : Nat), A_ #[true, true, true, true, true, true, true, true, true, true, true, false, false, false, false, false, true, false, false] 7 [(5, vp b12 0), (23, vi ((wi (((y1.f.length : Nat) : Int) - 1)))), (22, vi (((y1.f.length : Nat) : Int))), (21, .slice A3 y1.f.length c3), (17, .slice A3 y1.f.length c3), (20, vp xb 0), (19, vp xb 0), (18, vp xb 0), (16, vp xb 0), (15, vp xb 0), (14, vp xb 0), (13, vp eb 0), (4, .bool false), (0, vp xb 0), (1, vp eb 0)] (pts b12 0 [zi, zi, zi, zi, zi, zi, zi, zi, zi, zi, zi, zi, zi, vu 0, vu 0, vu 0, vu 0, .slice none 0 0] :: pts xb 0 [.slice A3 y1.f.length c3, .bool (y1.over), vi y1.code, vi y1.value] :: frsS A3 c3 y1.f :: cP eb c l :: cfgL c l pl :: memS eb 11 m :: pts eb 17 [vi now] :: pts eb 18 [vi draw] :: pts eb 19 [.slice RA recs.length RC] :: recsS RA RC recs :: evsS eb 20 evs :: [F])) ?_ (fun k20 => ?_)
   ·intro b12
    show AT _ _ _ _ _ _ _ _ _ _
    refine at_focus ((wi (((y1.f.length : Nat) : Int) - 1))).toNat pick2 (by omega) (fun rb21 ro21 hA22 => ?_)
    subst hA22
    rw [at_eq (by omega)]
    refine za 11 rfl (op_index (i := ((wi (((y1.f.length : Nat) : Int) - 1))).toNat) (o' := ro21 + ((wi (((y1.f.length : Nat) : Int) - 1))).toNat * 18) m4 m1 (by omega) (by have := g4; omega) (by kernel_rfl) rfl).q ?_
    refine tn 12 rfl (co (.cons m12 (.cons m0 .nil)) (r8enter_ok hr5 eb l pl RA RC rb21 (ro21 + ((wi (((y1.f.length : Nat) : Int) - 1))).toNat * 18) _ _) (p4 (p4 (p7 (p7 (p0 pn)))))) ?_
    rintro ⟨A23, c23⟩
    refine zt 13 rfl (mv m0) ?_
    refine zt 14 rfl (op_extract m0 rfl) ?_
    refine zt 15 rfl (op_extract m1 rfl) ?_
    refine tz 17 rfl (sta 0 m5 m1 t7) ?_
    refine zt 18 rfl (asg m0) ?_
    refine zz ?_
    exact pkE (p5 (p5 pn)) (tE (unfocus_st (xs := y1.f) (by have := g4; omega)) (fun _ _ s_ => ⟨b12, A23, c23, rb21, ro21, et_sta (lc e0 (lc e6 (lc e1 (lc e2 (lc e3 (lc e4 (lc e5 (lc e7 (lc e8 (lc e9 (lc e10 (lc e11 (lc e12 (lc e13 (lc e14 (lc e15 (lc e16 (lc e17 (lc e18 (lc e19 (lc (eU e0) .nil))))))))))))))))))))) (Ent.picks (p0 (p5 (p0 (p0 (p0 (p0 (p0 (p0 (p0 (p0 (p0 (p0 .nil))))))))))))) s_⟩))
   refine at_key (X := fun A_ => A_ #[true, true, true, true, true, true, true, true, true, true, true, false, false, false, false, false, false, false, false] 8 [(23, vi ((wi (((y1.f.length : Nat) : Int) - 1)))), (22, vi (((y1.f.length : Nat) : Int))), (21, .slice A3 y1.f.length c3), (17, .slice A3 y1.f.length c3), (20, vp xb 0), (19, vp xb 0), (18, vp xb 0), (16, vp xb 0), (15, vp xb 0), (14, vp xb 0), (13, vp eb 0), (4, .bool false), (0, vp xb 0), (1, vp eb 0)] (pts xb 0 [.slice A3 y1.f.length c3, .bool (y1.over), vi y1.code, vi y1.value] :: frsS A3 c3 y1.f :: cP eb c l :: cfgL c l pl :: memS eb 11 m :: pts eb 17 [vi now] :: pts eb 18 [vi draw] :: pts eb 19 [.slice RA recs.length RC] :: recsS RA RC recs :: evsS eb 20 evs :: [F])) ?_ (fun k24 => ?_)
   ·show AT _ _ _ _ _ _ _ _ _ _
    refine x2 11 16 ?_ ?_
    ·refine st_focus ((wi (((y1.f.length : Nat) : Int) - 1))).toNat pick1 (by omega) (fun rb25 ro25 hA26 => ?_)
     subst hA26
     rw [at_eq (by omega)]
     refine zs rfl (op_index (i := ((wi (((y1.f.length : Nat) : Int) - 1))).toNat) (o' := ro25 + ((wi (((y1.f.length : Nat) : Int) - 1))).toNat * 18) m3 m0 (by omega) (by have := g4; omega) (by kernel_rfl) rfl).q ?_
     refine x2 12 16 ?_ ?_
     ·refine un rfl (co (.cons m11 (.cons m0 .nil)) (r8enter_ok hr5 eb l pl RA RC rb25 (ro25 + ((wi (((y1.f.length : Nat) : Int) - 1))).toNat * 18) _ _) (p3 (p3 (p6 (p6 (p0 pn)))))) ?_
      rintro ⟨A27, c27⟩
      refine zt 13 rfl (mv m0) ?_
      refine zt 14 rfl (op_extract m0 rfl) ?_
      refine zt 15 rfl (op_extract m1 rfl) ?_
      refine tn 16 rfl (al [zi, zi, zi, zi, zi, zi, zi, zi, zi, zi, zi, zi, zi, vu 0, vu 0, vu 0, vu 0, .slice none 0 0]) ?_
      rintro b28
      refine tz 17 rfl (sta 0 m0 m2 t0) ?_
      refine zt 18 rfl (asg m1) ?_
      refine zz ?_
      exact pkE (p6 (p6 pn)) (tE (unfocus_st (xs := y1.f) (by have := g4; omega)) (fun _ _ s_ => ⟨b28, A27, c27, rb25, ro25, et_sta (lc e0 (lc e1 (lc e2 (lc e3 (lc e4 (lc e5 (lc e6 (lc e7 (lc e8 (lc e9 (lc e10 (lc e11 (lc e12 (lc e13 (lc e14 (lc e15 (lc e16 (lc e17 (lc e18 (lc e19 (lc (eU e0) .nil))))))))))))))))))))) Ent.refl s_⟩))
     refine un rfl (al [zi, zi, zi, zi, zi, zi, zi, zi, zi, zi, zi, zi, zi, vu 0, vu 0, vu 0, vu 0, .slice none 0 0]) ?_
     rintro b29
     refine tn 12 rfl (co (.cons m12 (.cons m1 .nil)) (r8enter_ok hr5 eb l pl RA RC rb25 (ro25 + ((wi (((y1.f.length : Nat) : Int) - 1))).toNat * 18) _ _) (p4 (p4 (p7 (p7 (p1 pn)))))) ?_
     rintro ⟨A30, c30⟩
     refine zt 13 rfl (mv m0) ?_
     refine zt 14 rfl (op_extract m0 rfl) ?_
     refine zt 15 rfl (op_extract m1 rfl) ?_
     refine tz 17 rfl (sta 0 m4 m1 t6) ?_
     refine zt 18 rfl (asg m0) ?_
     refine zz ?_
     exact pkE (p5 (p6 pn)) (tE (unfocus_st (xs := y1.f) (by have := g4; omega)) (fun _ _ s_ => ⟨b29, A30, c30, rb25, ro25, et_sta (lc e0 (lc e5 (lc e1 (lc e2 (lc e3 (lc e4 (lc e6 (lc e7 (lc e8 (lc e9 (lc e10 (lc e11 (lc e12 (lc e13 (lc e14 (lc e15 (lc e16 (lc e17 (lc e18 (lc e19 (lc (eU e0) .nil))))))))))))))))))))) (Ent.picks (p0 (p5 (p0 (p0 (p0 (p0 (p0 (p0 (p0 (p0 (p0 (p0 .nil))))))))))))) s_⟩))
    refine un rfl (al [zi, zi, zi, zi, zi, zi, zi, zi, zi, zi, zi, zi, zi, vu 0, vu 0, vu 0, vu 0, .slice none 0 0]) ?_
    rintro b31
    exact at_use (k20 b31) (lc e0 (lc e1 (lc e2 (lc e3 (lc e4 (lc e5 (lc e6 (lc e7 (lc e8 (lc e9 (lc e10 (lc e11 (lc e12 (lc e13 (lc e14 lN))))))))))))))) Ent.refl
   refine zt 0 rfl (mv m2) ?_
   refine zt 1 rfl (mv m2) ?_
   refine zt 2 rfl (nc m0) ?_
   refine zt 3 rfl (fd 0 0 m0) ?_
   refine zt 5 rfl (mv m5) ?_
   refine zt 6 rfl (nc m0) ?_
   refine zt 7 rfl (fd 0 0 m0) ?_
   refine x3 4 8 16 ?_ ?_ ?_
   ·refine zs rfl (ld 0 0 m3 e0 rfl) ?_
    refine x2 8 16 ?_ ?_
    ·refine zs rfl (ld 0 0 m1 e0 rfl) ?_
     refine zt 9 rfl (op_len m0 Tryz.underlying120) ?_
     refine zt 10 rfl (op_subI m0 .const) ?_
     exact at_use k24 (lc e0 (lc e1 (lc e2 (lc e3 (lc e4 (lc e5 (lc e6 (lc e7 (lc e8 (lc e9 (lc e10 (lc e11 (lc e12 (lc e13 lN)))))))))))))) Ent.refl
    refine un rfl (al [zi, zi, zi, zi, zi, zi, zi, zi, zi, zi, zi, zi, zi, vu 0, vu 0, vu 0, vu 0, .slice none 0 0]) ?_
    rintro b32
    refine za 8 rfl (ld 0 0 m2 e1 rfl) ?_
    refine zt 9 rfl (op_len m0 Tryz.underlying120) ?_
    refine zt 10 rfl (op_subI m0 .const) ?_
    exact at_use (k20 b32) (lc e3 (lc e0 (lc e1 (lc e2 (lc e4 (lc e5 (lc e6 (lc e7 (lc e8 (lc e9 (lc e10 (lc e11 (lc e12 (lc e13 (lc e14 lN))))))))))))))) Ent.refl
   ·refine zs rfl (ld 0 0 m0 e0 rfl) ?_
    refine zt 9 rfl (op_len m0 Tryz.underlying120) ?_
    refine zt 10 rfl (op_subI m0 .const) ?_
    refine x2 4 16 ?_ ?_
    ·refine zs rfl (ld 0 0 m6 e0 rfl) ?_
     exact at_use k24 (lc e1 (lc e2 (lc e3 (lc e0 (lc e4 (lc e5 (lc e6 (lc e7 (lc e8 (lc e9 (lc e10 (lc e11 (lc e12 (lc e13 lN)))))))))))))) Ent.refl
    refine un rfl (al [zi, zi, zi, zi, zi, zi, zi, zi, zi, zi, zi, zi, zi, vu 0, vu 0, vu 0, vu 0, .slice none 0 0]) ?_
    rintro b33
    refine za 4 rfl (ld 0 0 m7 e1 rfl) ?_
    exact at_use (k20 b33) (lc e1 (lc e2 (lc e3 (lc e4 (lc e0 (lc e5 (lc e6 (lc e7 (lc e8 (lc e9 (lc e10 (lc e11 (lc e12 (lc e13 (lc e14 lN))))))))))))))) Ent.refl
   refine un rfl (al [zi, zi, zi, zi, zi, zi, zi, zi, zi, zi, zi, zi, zi, vu 0, vu 0, vu 0, vu 0, .slice none 0 0]) ?_
   rintro b34
   refine at_group [4, 8, 9, 10] 7 rfl (by kernel_rfl) rfl ?_
   exact yq (ld 0 0 m4 e1 rfl) (yq (ld 0 0 m2 e1 rfl) (yp (op_len m0 Tryz.underlying120) (yp (op_subI m0 .const) (qN (at_use (k20 b34) (lc e4 (lc e0 (lc e1 (lc e2 (lc e3 (lc e5 (lc e6 (lc e7 (lc e8 (lc e9 (lc e10 (lc e11 (lc e12 (lc e13 (lc e14 lN))))))))))))))) Ent.refl)))))
  rintro a_ w_ ⟨b9, A8, c8, rb6, ro6, hst⟩
  refine (?_ : CT _ _ _ _ _ _ _ _ _) a_ w_ hst
  clear hst
  refine cS (q2 (zp (mv m0) (zp (op_notb m0) (q1 (cj hz1 m0 (fun h35 hz1 => ?_) (fun h35 hz1 => ?_))))))
  ·refine cX (tX (et_block_past rfl ?_))
   refine tX (bH (pkE (p7 pn) (tE (mach_shut (m := ({ y1 with f := (st_ y1.f (wi (((y1.f.length : Nat) : Int) - 1)) r5.2.2) } : MaV)) (by simp [st_])) ?_)))
   obtain rfl := sI hz1
   exact aK ({ y1 with f := (st_ y1.f (wi (((y1.f.length : Nat) : Int) - 1)) r5.2.2) } : MaV) () rfl (lc (eU e0) (lc (eU e1) (lc (eU e2) lN))) (d2 (eP (p1 (p1 (p0 (p0 (p0 (p2 (p2 (p2 pn))))))))))
  refine cK (tT (q2 (zp (fd 1 1 m3) (rz (st1 0 w1 m0 .const t1) (q1 ?_)))))
  obtain ⟨g36, hz1⟩ := gO hz1
  refine ct_cutEY (fun a_ w_ => ∃ (A38 : Option Addr) (c38 : Nat) (b37 : Nat), Sta 106 B W [(40, vp xb 0), (39, vp xb 0), (38, .slice A38 (y1.f.length + 1) c38), (37, .slice (some ⟨b37, 0, none⟩) 1 1), (36, .agg #[vi r5.1.kind, vi 1, vi r5.1.q.top, vi r5.1.q.bottom, vi r5.1.q.ring, vi r5.1.q.cap, vi r5.1.a, vi r5.1.b, vi r5.1.d, vi r5.1.i, vi r5.1.j, vi r5.1.n, vi r5.1.t, vu r5.1.u, vu r5.1.v, vu r5.1.w, vu r5.1.x, .slice A8 r5.1.l.length c8]), (35, .slice (some ⟨rb6, ro6, none⟩) y1.f.length c3), (34, vp xb 0), (33, vp xb 0), (32, vp xb 0), (31, vp xb 0), (30, vp b9 1), (29, .bool ((!r5.2.1))), (28, .bool (r5.2.1)), (6, .bool (r5.2.1)), (5, vp b9 0), (27, .bool (r5.2.1)), (26, .agg #[vi r5.1.kind, vi r5.1.line, vi r5.1.q.top, vi r5.1.q.bottom, vi r5.1.q.ring, vi r5.1.q.cap, vi r5.1.a, vi r5.1.b, vi r5.1.d, vi r5.1.i, vi r5.1.j, vi r5.1.n, vi r5.1.t, vu r5.1.u, vu r5.1.v, vu r5.1.w, vu r5.1.x, .slice A8 r5.1.l.length c8]), (12, .tuple #[.agg #[vi r5.1.kind, vi r5.1.line, vi r5.1.q.top, vi r5.1.q.bottom, vi r5.1.q.ring, vi r5.1.q.cap, vi r5.1.a, vi r5.1.b, vi r5.1.d, vi r5.1.i, vi r5.1.j, vi r5.1.n, vi r5.1.t, vu r5.1.u, vu r5.1.v, vu r5.1.w, vu r5.1.x, .slice A8 r5.1.l.length c8], .bool (r5.2.1)]), (25, .tuple #[.agg #[vi r5.1.kind, vi r5.1.line, vi r5.1.q.top, vi r5.1.q.bottom, vi r5.1.q.ring, vi r5.1.q.cap, vi r5.1.a, vi r5.1.b, vi r5.1.d, vi r5.1.i, vi r5.1.j, vi r5.1.n, vi r5.1.t, vu r5.1.u, vu r5.1.v, vu r5.1.w, vu r5.1.x, .slice A8 r5.1.l.length c8], .bool (r5.2.1)]), (24, vp rb6 (ro6 + ((wi (((y1.f.length : Nat) : Int) - 1))).toNat * 18)), (23, vi ((wi (((y1.f.length : Nat) : Int) - 1)))), (22, vi (((y1.f.length : Nat) : Int))), (21, .slice (some ⟨rb6, ro6, none⟩) y1.f.length c3), (17, .slice (some ⟨rb6, ro6, none⟩) y1.f.length c3), (20, vp xb 0), (19, vp xb 0), (18, vp xb 0), (16, vp xb 0), (15, vp xb 0), (14, vp xb 0), (13, vp eb 0), (4, .bool false), (0, vp xb 0), (1, vp eb 0)] (frsS A38 c38 ((st_ y1.f (wi (((y1.f.length : Nat) : Int) - 1)) r5.2.2) ++ [({ r5.1 with line := 1 } : FrV)]) :: roS encInt 1 A8 c8 r5.1.l :: pts b9 0 [vi r5.1.kind, vi 1, vi r5.1.q.top, vi r5.1.q.bottom, vi r5.1.q.ring, vi r5.1.q.cap, vi r5.1.a, vi r5.1.b, vi r5.1.d, vi r5.1.i, vi r5.1.j, vi r5.1.n, vi r5.1.t, vu r5.1.u, vu r5.1.v, vu r5.1.w, vu r5.1.x, .slice A8 r5.1.l.length c8] :: cP eb c l :: cfgL c l pl :: pts eb 19 [.slice RA recs.length RC] :: recsS RA RC recs :: pts xb 0 [.slice A38 (y1.f.length + 1) c38, .bool (y1.over), vi y1.code, vi y1.value] :: memS eb 11 m :: pts eb 17 [vi now] :: pts eb 18 [vi draw] :: evsS eb 20 evs :: [F]) a_ w_) ?_ ?_
  ·refine ca 11 ?_
   refine zt 0 rfl (mv (mU m2)) ?_
   refine zt 1 rfl (mv (mU m3)) ?_
   refine zt 2 rfl (nc m0) ?_
   refine zt 3 rfl (fd 0 0 m0) ?_
   refine x2 4 5 ?_ ?_
   ·refine zs rfl (ld 0 0 m0 e7 rfl) ?_
    refine za 5 rfl (lda 0 m9 e1) ?_
    refine tn 6 rfl (ot_buildSlice (T' := 75) (us := [vi r5.1.kind, vi 1, vi r5.1.q.top, vi r5.1.q.bottom, vi r5.1.q.ring, vi r5.1.q.cap, vi r5.1.a, vi r5.1.b, vi r5.1.d, vi r5.1.i, vi r5.1.j, vi r5.1.n, vi r5.1.t, vu r5.1.u, vu r5.1.v, vu r5.1.w, vu r5.1.x, .slice A8 r5.1.l.length c8]) (.cons m0 .nil) (fun _ => by kernel_rfl)) ?_
    rintro b43
    refine pkA (p3 pn) (aE ro_dup (tn 7 rfl (ot_appendI (by_ := 160) (zz := .agg #[zi, zi, zi, zi, zi, zi, zi, zi, zi, zi, zi, zi, zi, vu 0, vu 0, vu 0, vu 0, .slice none 0 0]) (xv := ({ r5.1 with line := 1 } : FrV)) (A' := A8) (c' := c8) frC_len m2 m0 (p3 (p2 (p0 .nil))) rfl (by simp [st_]) Tryz.underlying120 (infoB_of (by kernel_rfl)) rfl (by decide) rfl (by unfold maxLen; omega) (by omega)) ?_))
    rintro ⟨A44, c44⟩
    refine zt 8 rfl (nc m7) ?_
    refine zt 9 rfl (fd 0 0 m0) ?_
    refine tz 10 rfl (st1 0 w0 m0 m2 t7) ?_
    refine zz ?_
    exact fun _ _ s_ => ⟨A44, c44, b43, et_sta (lc e0 (lc e1 (lc e2 (lc e3 (lc e4 (lc e5 (lc e6 (lc e7 (lc e8 (lc e9 (lc e10 (lc e11 (lc e12 (lc e13 (lc e14 (lc e15 (lc e16 (lc e17 (lc e18 (lc e19 (lc (eU e0) (lc (eU e1) (lc (eU e2) (lc (eU e3) (lc (eU e4) (lc (eU e5) (lc (eU e6) (lc (eU e7) (lc (eU e8) (lc (eU e9) (lc (eU e10) (lc (eU e11) (lc (eU e12) (lc (eU e13) .nil)))))))))))))))))))))))))))))))))) Ent.refl s_⟩
   refine zs rfl (lda 0 m8 e1) ?_
   refine x2 4 6 ?_ ?_
   ·refine zs rfl (ld 0 0 m1 e7 rfl) ?_
    refine tn 6 rfl (ot_buildSlice (T' := 75) (us := [vi r5.1.kind, vi 1, vi r5.1.q.top, vi r5.1.q.bottom, vi r5.1.q.ring, vi r5.1.q.cap, vi r5.1.a, vi r5.1.b, vi r5.1.d, vi r5.1.i, vi r5.1.j, vi r5.1.n, vi r5.1.t, vu r5.1.u, vu r5.1.v, vu r5.1.w, vu r5.1.x, .slice A8 r5.1.l.length c8]) (.cons m1 .nil) (fun _ => by kernel_rfl)) ?_
    rintro b45
    refine pkA (p3 pn) (aE ro_dup (tn 7 rfl (ot_appendI (by_ := 160) (zz := .agg #[zi, zi, zi, zi, zi, zi, zi, zi, zi, zi, zi, zi, zi, vu 0, vu 0, vu 0, vu 0, .slice none 0 0]) (xv := ({ r5.1 with line := 1 } : FrV)) (A' := A8) (c' := c8) frC_len m1 m0 (p3 (p2 (p0 .nil))) rfl (by simp [st_]) Tryz.underlying120 (infoB_of (by kernel_rfl)) rfl (by decide) rfl (by unfold maxLen; omega) (by omega)) ?_))
    rintro ⟨A46, c46⟩
    refine zt 8 rfl (nc m7) ?_
    refine zt 9 rfl (fd 0 0 m0) ?_
    refine tz 10 rfl (st1 0 w0 m0 m2 t7) ?_
    refine zz ?_
    exact fun _ _ s_ => ⟨A46, c46, b45, et_sta (lc e0 (lc e1 (lc e2 (lc e3 (lc e5 (lc e4 (lc e6 (lc e7 (lc e8 (lc e9 (lc e10 (lc e11 (lc e12 (lc e13 (lc e14 (lc e15 (lc e16 (lc e17 (lc e18 (lc e19 (lc (eU e0) (lc (eU e1) (lc (eU e2) (lc (eU e3) (lc (eU e4) (lc (eU e5) (lc (eU e6) (lc (eU e7) (lc (eU e8) (lc (eU e9) (lc (eU e10) (lc (eU e11) (lc (eU e12) (lc (eU e13) .nil)))))))))))))))))))))))))))))))))) Ent.refl s_⟩
   refine un rfl (ot_buildSlice (T' := 75) (us := [vi r5.1.kind, vi 1, vi r5.1.q.top, vi r5.1.q.bottom, vi r5.1.q.ring, vi r5.1.q.cap, vi r5.1.a, vi r5.1.b, vi r5.1.d, vi r5.1.i, vi r5.1.j, vi r5.1.n, vi r5.1.t, vu r5.1.u, vu r5.1.v, vu r5.1.w, vu r5.1.x, .slice A8 r5.1.l.length c8]) (.cons m0 .nil) (fun _ => by kernel_rfl)) ?_
   rintro b47
   refine za 4 rfl (ld 0 0 m2 e8 rfl) ?_
   refine pkA (p3 pn) (aE ro_dup (tn 7 rfl (ot_appendI (by_ := 160) (zz := .agg #[zi, zi, zi, zi, zi, zi, zi, zi, zi, zi, zi, zi, zi, vu 0, vu 0, vu 0, vu 0, .slice none 0 0]) (xv := ({ r5.1 with line := 1 } : FrV)) (A' := A8) (c' := c8) frC_len m0 m1 (p3 (p2 (p0 .nil))) rfl (by simp [st_]) Tryz.underlying120 (infoB_of (by kernel_rfl)) rfl (by decide) rfl (by unfold maxLen; omega) (by omega)) ?_))
   rintro ⟨A48, c48⟩
   refine zt 8 rfl (nc m7) ?_
   refine zt 9 rfl (fd 0 0 m0) ?_
   refine tz 10 rfl (st1 0 w0 m0 m2 t7) ?_
   refine zz ?_
   exact fun _ _ s_ => ⟨A48, c48, b47, et_sta (lc e0 (lc e1 (lc e2 (lc e4 (lc e5 (lc e3 (lc e6 (lc e7 (lc e8 (lc e9 (lc e10 (lc e11 (lc e12 (lc e13 (lc e14 (lc e15 (lc e16 (lc e17 (lc e18 (lc e19 (lc (eU e0) (lc (eU e1) (lc (eU e2) (lc (eU e3) (lc (eU e4) (lc (eU e5) (lc (eU e6) (lc (eU e7) (lc (eU e8) (lc (eU e9) (lc (eU e10) (lc (eU e11) (lc (eU e12) (lc (eU e13) .nil)))))))))))))))))))))))))))))))))) Ent.refl s_⟩
  rintro a_ w_ ⟨A38, c38, b37, hst⟩
  refine (?_ : ET _ _ _ _ .normal _ _) a_ w_ hst
  clear hst
  exact tB (pkE (p7 pn) (tE (mach_shut (m := ({ y1 with f := ((st_ y1.f (wi (((y1.f.length : Nat) : Int) - 1)) r5.2.2) ++ [({ r5.1 with line := 1 } : FrV)]) } : MaV)) (by simp [st_])) (aK ({ y1 with f := ((st_ y1.f (wi (((y1.f.length : Nat) : Int) - 1)) r5.2.2) ++ [({ r5.1 with line := 1 } : FrV)]) } : MaV) () hz1 (lc (eU e11) (lc (eU e12) (lc (eU e13) lN))) (d2 (eP (p1 (p1 (p0 (p0 (p0 (p2 (p2 (p2 pn)))))))))))))
 subst hy1
 refine cS (ct_open pick0 ?_)
 rintro ⟨A49, c49⟩
 obtain ⟨g50, hs⟩ := gO hs
 obtain ⟨r51, hr51, hs⟩ := bO_of hs
 refine ct_cutE (fun a_ w_ => ∃ (b54 : Nat) (rb52 : Nat) (ro52 : Nat), Sta 106 B W [(7, vp b54 0), (4, .bool false), (0, vp xb 0), (1, vp eb 0)] (frsS (some ⟨rb52, ro52, none⟩) c49 (st_ z1.f (wi (((z1.f.length : Nat) : Int) - 1)) r51.2.2.2.2) :: pts b54 0 [.bool (r51.1.done), vi r51.1.code, vi r51.1.value] :: cP eb c l :: cfgL c l pl :: memS eb 11 r51.2.1 :: pts eb 17 [vi now] :: pts eb 18 [vi draw] :: pts eb 19 [.slice RA r51.2.2.1.length RC] :: recsS RA RC r51.2.2.1 :: evsS eb 20 r51.2.2.2.1 :: pts xb 0 [.slice (some ⟨rb52, ro52, none⟩) z1.f.length c49, .bool (z1.over), vi z1.code, vi z1.value] :: [F]) a_ w_) ?_ ?_
 ·refine ca 15 ?_
  refine at_key (X := fun A_ => ∀ (b56 : Nat), A_ #[true, true, true, true, true, true, true, true, true, true, true, false, false, true, false] 3 [(7, vp b56 0), (51, vi ((wi (((z1.f.length : Nat) : Int) - 1)))), (45, .slice A49 z1.f.length c49), (41, vp eb 0), (4, .bool false), (0, vp xb 0), (1, vp eb 0)] (pts b56 0 [.bool false, zi, zi] :: pts xb 0 [.slice A49 z1.f.length c49, .bool (z1.over), vi z1.code, vi z1.value] :: frsS A49 c49 z1.f :: cP eb c l :: cfgL c l pl :: memS eb 11 m :: pts eb 17 [vi now] :: pts eb 18 [vi draw] :: pts eb 19 [.slice RA recs.length RC] :: recsS RA RC recs :: evsS eb 20 evs :: [F])) ?_ (fun k63 => ?_)
  ·intro b56
   show AT _ _ _ _ _ _ _ _ _ _
   refine at_focus ((wi (((z1.f.length : Nat) : Int) - 1))).toNat pick2 (by omega) (fun rb64 ro64 hA65 => ?_)
   subst hA65
   rw [at_eq (by omega)]
   refine za 11 rfl (op_index (i := ((wi (((z1.f.length : Nat) : Int) - 1))).toNat) (o' := ro64 + ((wi (((z1.f.length : Nat) : Int) - 1))).toNat * 18) m2 m1 (by omega) (by have := g50; omega) (by kernel_rfl) rfl).q ?_
   refine tu 12 rfl (co (.cons m4 (.cons m0 .nil)) (r8leaf_ok hr51 eb l pl RA RC rb64 (ro64 + ((wi (((z1.f.length : Nat) : Int) - 1))).toNat * 18) _ _) (p4 (p4 (p4 (p4 (p4 (p4 (p4 (p4 (p0 pn)))))))))) ?_
   refine tz 14 rfl (sta 0 m2 m0 t10) ?_
   refine zz ?_
   exact pkE (p8 (p8 pn)) (tE (unfocus_st (xs := z1.f) (by have := g50; omega)) (fun _ _ s_ => ⟨b56, rb64, ro64, et_sta (lc e2 (lc e6 (lc e7 (lc e8 .nil)))) (Ent.picks (p0 (p8 (p0 (p0 (p0 (p0 (p0 (p0 (p0 (p0 (p0 .nil)))))))))))) s_⟩))
  refine at_key (X := fun A_ => A_ #[true, true, true, true, true, true, true, true, true, true, true, false, false, false, false] 4 [(51, vi ((wi (((z1.f.length : Nat) : Int) - 1)))), (45, .slice A49 z1.f.length c49), (41, vp eb 0), (4, .bool false), (0, vp xb 0), (1, vp eb 0)] (pts xb 0 [.slice A49 z1.f.length c49, .bool (z1.over), vi z1.code, vi z1.value] :: frsS A49 c49 z1.f :: cP eb c l :: cfgL c l pl :: memS eb 11 m :: pts eb 17 [vi now] :: pts eb 18 [vi draw] :: pts eb 19 [.slice RA recs.length RC] :: recsS RA RC recs :: evsS eb 20 evs :: [F])) ?_ (fun k66 => ?_)
  ·show AT _ _ _ _ _ _ _ _ _ _
   refine x2 11 13 ?_ ?_
   ·refine st_focus ((wi (((z1.f.length : Nat) : Int) - 1))).toNat pick1 (by omega) (fun rb67 ro67 hA68 => ?_)
    subst hA68
    rw [at_eq (by omega)]
    refine zs rfl (op_index (i := ((wi (((z1.f.length : Nat) : Int) - 1))).toNat) (o' := ro67 + ((wi (((z1.f.length : Nat) : Int) - 1))).toNat * 18) m1 m0 (by omega) (by have := g50; omega) (by kernel_rfl) rfl).q ?_
    refine x2 12 13 ?_ ?_
    ·refine uu rfl (co (.cons m3 (.cons m0 .nil)) (r8leaf_ok hr51 eb l pl RA RC rb67 (ro67 + ((wi (((z1.f.length : Nat) : Int) - 1))).toNat * 18) _ _) (p3 (p3 (p3 (p3 (p3 (p3 (p3 (p3 (p0 pn)))))))))) ?_
     refine tn 13 rfl (al [.bool false, zi, zi]) ?_
     rintro b69
     refine tz 14 rfl (sta 0 m0 m1 t0) ?_
     refine zz ?_
     exact pkE (p9 (p9 pn)) (tE (unfocus_st (xs := z1.f) (by have := g50; omega)) (fun _ _ s_ => ⟨b69, rb67, ro67, et_sta (lc e0 (lc e6 (lc e7 (lc e8 .nil)))) Ent.refl s_⟩))
    refine un rfl (al [.bool false, zi, zi]) ?_
    rintro b70
    refine tu 12 rfl (co (.cons m4 (.cons m1 .nil)) (r8leaf_ok hr51 eb l pl RA RC rb67 (ro67 + ((wi (((z1.f.length : Nat) : Int) - 1))).toNat * 18) _ _) (p4 (p4 (p4 (p4 (p4 (p4 (p4 (p4 (p1 pn)))))))))) ?_
    refine tz 14 rfl (sta 0 m1 m0 t9) ?_
    refine zz ?_
    exact pkE (p8 (p9 pn)) (tE (unfocus_st (xs := z1.f) (by have := g50; omega)) (fun _ _ s_ => ⟨b70, rb67, ro67, et_sta (lc e1 (lc e6 (lc e7 (lc e8 .nil)))) (Ent.picks (p0 (p8 (p0 (p0 (p0 (p0 (p0 (p0 (p0 (p0 (p0 .nil)))))))))))) s_⟩))
   refine un rfl (al [.bool false, zi, zi]) ?_
   rintro b71
   exact at_use (k63 b71) (lc e0 (lc e1 (lc e2 (lc e3 (lc e4 (lc e5 (lc e6 lN))))))) Ent.refl
  refine zt 0 rfl (mv m2) ?_
  refine zt 1 rfl (mv m2) ?_
  refine zt 2 rfl (nc m0) ?_
  refine zt 3 rfl (fd 0 0 m0) ?_
  refine zt 5 rfl (mv m5) ?_
  refine zt 6 rfl (nc m0) ?_
  refine zt 7 rfl (fd 0 0 m0) ?_
  refine x3 4 8 13 ?_ ?_ ?_
  ·refine zs rfl (ld 0 0 m3 e0 rfl) ?_
   refine x2 8 13 ?_ ?_
   ·refine zs rfl (ld 0 0 m1 e0 rfl) ?_
    refine zt 9 rfl (op_len m0 Tryz.underlying120) ?_
    refine zt 10 rfl (op_subI m0 .const) ?_
    exact at_use k66 (lc e0 (lc e3 (lc e10 (lc e11 (lc e12 (lc e13 lN)))))) Ent.refl
   refine un rfl (al [.bool false, zi, zi]) ?_
   rintro b72
   refine za 8 rfl (ld 0 0 m2 e1 rfl) ?_
   refine zt 9 rfl (op_len m0 Tryz.underlying120) ?_
   refine zt 10 rfl (op_subI m0 .const) ?_
   exact at_use (k63 b72) (lc e3 (lc e0 (lc e4 (lc e11 (lc e12 (lc e13 (lc e14 lN))))))) Ent.refl
  ·refine zs rfl (ld 0 0 m0 e0 rfl) ?_
   refine zt 9 rfl (op_len m0 Tryz.underlying120) ?_
   refine zt 10 rfl (op_subI m0 .const) ?_
   refine x2 4 13 ?_ ?_
   ·refine zs rfl (ld 0 0 m6 e0 rfl) ?_
    exact at_use k66 (lc e1 (lc e0 (lc e10 (lc e11 (lc e12 (lc e13 lN)))))) Ent.refl
   refine un rfl (al [.bool false, zi, zi]) ?_
   rintro b73
   refine za 4 rfl (ld 0 0 m7 e1 rfl) ?_
   exact at_use (k63 b73) (lc e1 (lc e2 (lc e0 (lc e11 (lc e12 (lc e13 (lc e14 lN))))))) Ent.refl
  refine un rfl (al [.bool false, zi, zi]) ?_
  rintro b74
  refine at_group [4, 8, 9, 10] 3 rfl (by kernel_rfl) rfl ?_
  exact yq (ld 0 0 m4 e1 rfl) (yq (ld 0 0 m2 e1 rfl) (yp (op_len m0 Tryz.underlying120) (yp (op_subI m0 .const) (qN (at_use (k63 b74) (lc e4 (lc e0 (lc e3 (lc e11 (lc e12 (lc e13 (lc e14 lN))))))) Ent.refl)))))
 rintro a_ w_ ⟨b54, rb52, ro52, hst⟩
 refine (?_ : CT _ _ _ _ _ _ _ _ _) a_ w_ hst
 clear hst
 refine cS (cE (Ent.picks (p10 (p0 .nil))) (cE (mach_shut (m := ({ z1 with f := (st_ z1.f (wi (((z1.f.length : Nat) : Int) - 1)) r51.2.2.2.2) } : MaV)) (by simp [st_])) ?_))
 obtain ⟨z2z, hz2, hs⟩ := bO_of hs
 refine ct_cutG (S := Bool × ResV × (List Ev) × (List RecV) × MaV) (G := Unit) (fun z2 => z2z = .inr z2) (fun z2 _ => [(4, .bool (z2.1))]) (fun z2 _ => machS xb z2.2.2.2.2 :: pts b54 0 [.bool (z2.2.1.done), vi z2.2.1.code, vi z2.2.1.value] :: cP eb c l :: cfgL c l pl :: memS eb 11 r51.2.1 :: pts eb 17 [vi now] :: pts eb 18 [vi draw] :: pts eb 19 [.slice RA z2.2.2.2.1.length RC] :: recsS RA RC z2.2.2.2.1 :: evsS eb 20 z2.2.2.1 :: [F]) ?_ (fun z2 _ hy2 => (?_ : CT _ _ _ _ _ _ _ _ _))
 ·refine cB (ct_loopK (S := Bool × ResV × (List Ev) × (List RecV) × MaV) (G := Unit) (fun k y2 => r8step_l2 c r51 k y2 = some z2z) (fun _ h => by rw [r8step_l2] at h; cases h) (fun y2 _ => [(7, vp b54 0), (4, .bool (y2.1)), (0, vp xb 0), (1, vp eb 0)]) (fun y2 _ => machS xb y2.2.2.2.2 :: pts b54 0 [.bool (y2.2.1.done), vi y2.2.1.code, vi y2.2.1.value] :: cP eb c l :: cfgL c l pl :: memS eb 11 r51.2.1 :: pts eb 17 [vi now] :: pts eb 18 [vi draw] :: pts eb 19 [.slice RA y2.2.2.2.1.length RC] :: recsS RA RC y2.2.2.2.1 :: evsS eb 20 y2.2.2.1 :: [F]) 100 (false, r51.1, r51.2.2.2.1, r51.2.2.1, ({ z1 with f := (st_ z1.f (wi (((z1.f.length : Nat) : Int) - 1)) r51.2.2.2.2) } : MaV)) () hz2 (lc e0 (lc e1 (lc e2 (lc e3 .nil)))) Ent.refl (fun k2 y2 _ hz => ?_))
  clear hz2
  have hz2 := hz; clear hz
  rw [r8step_l2] at hz2
  refine cS (cS (ct_open pick0 ?_))
  rintro ⟨A75, c75⟩
  refine cR (zp (fd 0 0 m0) (zq (ld 0 0 m0 e2 rfl) (q1 (cj hz2 m0 (fun h76 hz2 => ?_) (fun h76 hz2 => ?_)))))
  ·refine cK (tT (cB (cS (ca 15 ?_))))
   refine zt 0 rfl (mv m4) ?_
   refine zt 1 rfl (mv m5) ?_
   refine zt 2 rfl (nc m0) ?_
   refine zt 3 rfl (fd 0 0 m0) ?_
   refine zt 5 rfl (mv m8) ?_
   refine zt 6 rfl (nc m0) ?_
   refine zt 7 rfl (fd 0 0 m0) ?_
   refine at_group [4, 8, 9, 10] 4 rfl (by kernel_rfl) rfl ?_
   refine yq (ld 0 0 m3 e0 rfl) (yq (ld 0 0 m1 e0 rfl) (yp (op_len m0 Tryz.underlying120) (yp (op_subI m0 .const) (qN ?_))))
   obtain ⟨g77, hz2⟩ := gO hz2
   refine at_fact (fun _ hw => rowI_cap hw.2.2 e1) (fun hc78 => ?_)
   refine pkA (p1 pn) (aE (rowI_take frC_len (k := ((wi (((y2.2.2.2.2.f.length : Nat) : Int) - 1))).toNat)) (zt 11 rfl (op_sliceH (xs := y2.2.2.2.2.f) m3 Tryz.underlying120 (by kernel_rfl : _ = 18) (by omega) m0 g77 hc78) ?_))
   refine zt 12 rfl (nc m11) ?_
   refine zt 13 rfl (fd 0 0 m0) ?_
   refine tz 14 rfl (st1 0 w0 m0 m2 t1) ?_
   refine zz ?_
   refine tT (cS (q2 (zp (mv m18) (zp (nc m0) (zp (fd 0 0 m0) (zq (ld 0 0 m0 e1 rfl) (zp (op_len m0 Tryz.underlying120) (zp (eqL m0 .const) (q1 (ci hz2 m0 (fun h79 hz2 => ?_) (fun h79 hz2 => ?_)))))))))))
   ·refine cS (ct_cutG (S := Unit) (G := Unit) (fun _ => True) (fun _ _ => [(88, vp xb 3), (87, vp xb 0), (86, vp xb 2), (85, vp xb 0), (82, vi y2.2.1.value), (80, vi y2.2.1.code), (84, vp xb 1), (83, vp xb 0), (81, vp b54 2), (79, vp b54 1), (78, vp xb 0), (77, vp xb 0), (76, vp xb 0), (75, .bool (decide ((((y2.2.2.2.2.f.take ((wi (((y2.2.2.2.2.f.length : Nat) : Int) - 1))).toNat).length : Nat) : Int) = 0))), (74, vi ((((y2.2.2.2.2.f.take ((wi (((y2.2.2.2.2.f.length : Nat) : Int) - 1))).toNat).length : Nat) : Int))), (73, .slice A75 ((y2.2.2.2.2.f.take ((wi (((y2.2.2.2.2.f.length : Nat) : Int) - 1))).toNat).length) c75), (72, vp xb 0), (71, vp xb 0), (70, vp xb 0), (69, vp xb 0), (68, vp xb 0), (67, .slice A75 ((y2.2.2.2.2.f.take ((wi (((y2.2.2.2.2.f.length : Nat) : Int) - 1))).toNat).length) c75), (66, vi ((wi (((y2.2.2.2.2.f.length : Nat) : Int) - 1)))), (65, vi (((y2.2.2.2.2.f.length : Nat) : Int))), (64, .slice A75 y2.2.2.2.2.f.length c75), (60, .slice A75 y2.2.2.2.2.f.length c75), (63, vp xb 0), (62, vp xb 0), (61, vp xb 0), (59, vp xb 0), (58, vp xb 0), (57, vp xb 0), (56, vp xb 0), (55, .bool (y2.2.1.done)), (54, vp b54 0), (7, vp b54 0), (4, .bool (y2.1)), (0, vp xb 0), (1, vp eb 0)]) (fun _ _ => frsS A75 c75 (y2.2.2.2.2.f.take ((wi (((y2.2.2.2.2.f.length : Nat) : Int) - 1))).toNat) :: pts xb 0 [.slice A75 ((y2.2.2.2.2.f.take ((wi (((y2.2.2.2.2.f.length : Nat) : Int) - 1))).toNat).length) c75, .bool true, vi y2.2.1.code, vi y2.2.1.value] :: pts b54 0 [.bool (y2.2.1.done), vi y2.2.1.code, vi y2.2.1.value] :: cP eb c l :: cfgL c l pl :: memS eb 11 r51.2.1 :: pts eb 17 [vi now] :: pts eb 18 [vi draw] :: pts eb 19 [.slice RA y2.2.2.2.1.length RC] :: recsS RA RC y2.2.2.2.1 :: evsS eb 20 y2.2.2.1 :: [F]) ?_ (fun _ _ _ => (?_ : CT _ _ _ _ _ _ _ _ _)))
    ·refine ca 16 ?_
     refine zt 0 rfl (mv (mU m4)) ?_
     refine zt 1 rfl (mv (mU m5)) ?_
     refine zt 2 rfl (mv (mU m6)) ?_
     refine zt 3 rfl (fd 1 1 (mU m5)) ?_
     refine zt 5 rfl (fd 2 2 (mU m6)) ?_
     refine zt 7 rfl (nc m4) ?_
     refine zt 8 rfl (fd 1 1 m0) ?_
     refine x3 4 6 9 ?_ ?_ ?_
     ·refine zs rfl (ld 0 1 m3 e2 rfl) ?_
      refine x2 6 9 ?_ ?_
      ·refine zs rfl (ld 0 2 m3 e2 rfl) ?_
       refine tz 9 rfl (st1 0 w1 m2 .const t1) ?_
       refine zt 10 rfl (nc m7) ?_
       refine zt 11 rfl (fd 2 2 m0) ?_
       refine tz 12 rfl (st1 0 w2 m0 m3 t1) ?_
       refine zt 13 rfl (nc m8) ?_
       refine zt 14 rfl (fd 3 3 m0) ?_
       refine tz 15 rfl (st1 0 w3 m0 m4 t1) ?_
       refine zz ?_
       exact aK () () trivial (lc e0 (lc e1 (lc e2 (lc e3 (lc e4 (lc e5 (lc e6 (lc e7 (lc e8 (lc e9 (lc e10 (lc e11 (lc e12 (lc e13 (lc e14 (lc e15 (lc e16 (lc e17 (lc e18 (lc e19 (lc (eU e0) (lc (eU e1) (lc (eU e2) (lc (eU e3) (lc (eU e4) (lc (eU e5) (lc (eU e6) (lc (eU e7) (lc (eU e8) (lc (eU e9) (lc (eU e10) (lc (eU e11) (lc (eU e12) (lc (eU e13) (lc (eU e14) (lc (eU e15) (lc (eU e16) (lc (eU e17) (lc (eU e18) lN))))))))))))))))))))))))))))))))))))))) Ent.refl
      refine uz rfl (st1 0 w1 m1 .const t1) ?_
      refine zt 10 rfl (nc m6) ?_
      refine zt 11 rfl (fd 2 2 m0) ?_
      refine x2 6 12 ?_ ?_
      ·refine zs rfl (ld 0 2 m5 e2 rfl) ?_
       refine tz 12 rfl (st1 0 w2 m1 m3 t1) ?_
       refine zt 13 rfl (nc m8) ?_
       refine zt 14 rfl (fd 3 3 m0) ?_
       refine tz 15 rfl (st1 0 w3 m0 m2 t1) ?_
       refine zz ?_
       exact aK () () trivial (lc e0 (lc e1 (lc e3 (lc e4 (lc e2 (lc e5 (lc e6 (lc e7 (lc e8 (lc e9 (lc e10 (lc e11 (lc e12 (lc e13 (lc e14 (lc e15 (lc e16 (lc e17 (lc e18 (lc e19 (lc (eU e0) (lc (eU e1) (lc (eU e2) (lc (eU e3) (lc (eU e4) (lc (eU e5) (lc (eU e6) (lc (eU e7) (lc (eU e8) (lc (eU e9) (lc (eU e10) (lc (eU e11) (lc (eU e12) (lc (eU e13) (lc (eU e14) (lc (eU e15) (lc (eU e16) (lc (eU e17) (lc (eU e18) lN))))))))))))))))))))))))))))))))))))))) Ent.refl
      refine uz rfl (st1 0 w2 m0 m2 t1) ?_
      refine za 6 rfl (ld 0 2 m5 e2 rfl) ?_
      refine zt 13 rfl (nc m8) ?_
      refine zt 14 rfl (fd 3 3 m0) ?_
      refine tz 15 rfl (st1 0 w3 m0 m2 t1) ?_
      refine zz ?_
      exact aK () () trivial (lc e0 (lc e1 (lc e3 (lc e4 (lc e2 (lc e5 (lc e6 (lc e7 (lc e8 (lc e9 (lc e10 (lc e11 (lc e12 (lc e13 (lc e14 (lc e15 (lc e16 (lc e17 (lc e18 (lc e19 (lc (eU e0) (lc (eU e1) (lc (eU e2) (lc (eU e3) (lc (eU e4) (lc (eU e5) (lc (eU e6) (lc (eU e7) (lc (eU e8) (lc (eU e9) (lc (eU e10) (lc (eU e11) (lc (eU e12) (lc (eU e13) (lc (eU e14) (lc (eU e15) (lc (eU e16) (lc (eU e17) (lc (eU e18) lN))))))))))))))))))))))))))))))))))))))) Ent.refl
     ·refine zs rfl (ld 0 2 m2 e2 rfl) ?_
      refine x2 4 9 ?_ ?_
      ·refine zs rfl (ld 0 1 m4 e2 rfl) ?_
       refine tz 9 rfl (st1 0 w1 m2 .const t1) ?_
       refine zt 10 rfl (nc m7) ?_
       refine zt 11 rfl (fd 2 2 m0) ?_
       refine tz 12 rfl (st1 0 w2 m0 m2 t1) ?_
       refine zt 13 rfl (nc m8) ?_
       refine zt 14 rfl (fd 3 3 m0) ?_
       refine tz 15 rfl (st1 0 w3 m0 m5 t1) ?_
       refine zz ?_
       exact aK () () trivial (lc e0 (lc e1 (lc e2 (lc e3 (lc e5 (lc e4 (lc e6 (lc e7 (lc e8 (lc e9 (lc e10 (lc e11 (lc e12 (lc e13 (lc e14 (lc e15 (lc e16 (lc e17 (lc e18 (lc e19 (lc (eU e0) (lc (eU e1) (lc (eU e2) (lc (eU e3) (lc (eU e4) (lc (eU e5) (lc (eU e6) (lc (eU e7) (lc (eU e8) (lc (eU e9) (lc (eU e10) (lc (eU e11) (lc (eU e12) (lc (eU e13) (lc (eU e14) (lc (eU e15) (lc (eU e16) (lc (eU e17) (lc (eU e18) lN))))))))))))))))))))))))))))))))))))))) Ent.refl
      refine uz rfl (st1 0 w1 m1 .const t1) ?_
      refine za 4 rfl (ld 0 1 m4 e2 rfl) ?_
      refine zt 10 rfl (nc m7) ?_
      refine zt 11 rfl (fd 2 2 m0) ?_
      refine tz 12 rfl (st1 0 w2 m0 m2 t1) ?_
      refine zt 13 rfl (nc m8) ?_
      refine zt 14 rfl (fd 3 3 m0) ?_
      refine tz 15 rfl (st1 0 w3 m0 m5 t1) ?_
      refine zz ?_
      exact aK () () trivial (lc e0 (lc e1 (lc e2 (lc e3 (lc e5 (lc e4 (lc e6 (lc e7 (lc e8 (lc e9 (lc e10 (lc e11 (lc e12 (lc e13 (lc e14 (lc e15 (lc e16 (lc e17 (lc e18 (lc e19 (lc (eU e0) (lc (eU e1) (lc (eU e2) (lc (eU e3) (lc (eU e4) (lc (eU e5) (lc (eU e6) (lc (eU e7) (lc (eU e8) (lc (eU e9) (lc (eU e10) (lc (eU e11) (lc (eU e12) (lc (eU e13) (lc (eU e14) (lc (eU e15) (lc (eU e16) (lc (eU e17) (lc (eU e18) lN))))))))))))))))))))))))))))))))))))))) Ent.refl
     refine uz rfl (st1 0 w1 m0 .const t1) ?_
     refine x2 4 6 ?_ ?_
     ·refine zs rfl (ld 0 1 m3 e2 rfl) ?_
      refine zt 10 rfl (nc m6) ?_
      refine zt 11 rfl (fd 2 2 m0) ?_
      refine x2 6 12 ?_ ?_
      ·refine zs rfl (ld 0 2 m5 e2 rfl) ?_
       refine tz 12 rfl (st1 0 w2 m1 m3 t1) ?_
       refine zt 13 rfl (nc m8) ?_
       refine zt 14 rfl (fd 3 3 m0) ?_
       refine tz 15 rfl (st1 0 w3 m0 m2 t1) ?_
       refine zz ?_
       exact aK () () trivial (lc e0 (lc e1 (lc e3 (lc e4 (lc e2 (lc e5 (lc e6 (lc e7 (lc e8 (lc e9 (lc e10 (lc e11 (lc e12 (lc e13 (lc e14 (lc e15 (lc e16 (lc e17 (lc e18 (lc e19 (lc (eU e0) (lc (eU e1) (lc (eU e2) (lc (eU e3) (lc (eU e4) (lc (eU e5) (lc (eU e6) (lc (eU e7) (lc (eU e8) (lc (eU e9) (lc (eU e10) (lc (eU e11) (lc (eU e12) (lc (eU e13) (lc (eU e14) (lc (eU e15) (lc (eU e16) (lc (eU e17) (lc (eU e18) lN))))))))))))))))))))))))))))))))))))))) Ent.refl
      refine uz rfl (st1 0 w2 m0 m2 t1) ?_
      refine za 6 rfl (ld 0 2 m5 e2 rfl) ?_
      refine zt 13 rfl (nc m8) ?_
      refine zt 14 rfl (fd 3 3 m0) ?_
      refine tz 15 rfl (st1 0 w3 m0 m2 t1) ?_
      refine zz ?_
      exact aK () () trivial (lc e0 (lc e1 (lc e3 (lc e4 (lc e2 (lc e5 (lc e6 (lc e7 (lc e8 (lc e9 (lc e10 (lc e11 (lc e12 (lc e13 (lc e14 (lc e15 (lc e16 (lc e17 (lc e18 (lc e19 (lc (eU e0) (lc (eU e1) (lc (eU e2) (lc (eU e3) (lc (eU e4) (lc (eU e5) (lc (eU e6) (lc (eU e7) (lc (eU e8) (lc (eU e9) (lc (eU e10) (lc (eU e11) (lc (eU e12) (lc (eU e13) (lc (eU e14) (lc (eU e15) (lc (eU e16) (lc (eU e17) (lc (eU e18) lN))))))))))))))))))))))))))))))))))))))) Ent.refl
     refine zs rfl (ld 0 2 m2 e2 rfl) ?_
     refine za 4 rfl (ld 0 1 m4 e2 rfl) ?_
     refine zt 10 rfl (nc m7) ?_
     refine zt 11 rfl (fd 2 2 m0) ?_
     refine tz 12 rfl (st1 0 w2 m0 m2 t1) ?_
     refine zt 13 rfl (nc m8) ?_
     refine zt 14 rfl (fd 3 3 m0) ?_
     refine tz 15 rfl (st1 0 w3 m0 m5 t1) ?_
     refine zz ?_
     exact aK () () trivial (lc e0 (lc e1 (lc e2 (lc e3 (lc e5 (lc e4 (lc e6 (lc e7 (lc e8 (lc e9 (lc e10 (lc e11 (lc e12 (lc e13 (lc e14 (lc e15 (lc e16 (lc e17 (lc e18 (lc e19 (lc (eU e0) (lc (eU e1) (lc (eU e2) (lc (eU e3) (lc (eU e4) (lc (eU e5) (lc (eU e6) (lc (eU e7) (lc (eU e8) (lc (eU e9) (lc (eU e10) (lc (eU e11) (lc (eU e12) (lc (eU e13) (lc (eU e14) (lc (eU e15) (lc (eU e16) (lc (eU e17) (lc (eU e18) lN))))))))))))))))))))))))))))))))))))))) Ent.refl
    refine q2 (zo (asg .const) (pickU pick16) (q4 (tR (bR (tR (bR (tR (pkE (p1 pn) (tE (mach_shut (m := (⟨(y2.2.2.2.2.f.take ((wi (((y2.2.2.2.2.f.length : Nat) : Int) - 1))).toNat), true, y2.2.1.code, y2.2.1.value⟩ : MaV)) rfl) ?_)))))))))
    obtain rfl := sI hz2
    obtain rfl := sI hs
    exact et_fn () rfl (.cons e0 .nil) rfl (d1 (eP (p1 pn)))
   refine cK (tT ?_)
   obtain ⟨g86, hz2⟩ := gO hz2
   obtain ⟨r87, hr87, hz2⟩ := bO_of hz2
   refine ct_cutY (S := Nat) (G := Nat) (fun _ => True) (fun rb88 ro88 => [(105, .agg #[.bool (r87.1.done), vi r87.1.code, vi r87.1.value]), (104, vi y2.2.1.value), (102, vi y2.2.1.code), (100, vp rb88 (ro88 + ((wi ((((y2.2.2.2.2.f.take ((wi (((y2.2.2.2.2.f.length : Nat) : Int) - 1))).toNat).length : Nat) : Int) - 1))).toNat * 18)), (99, vi ((wi ((((y2.2.2.2.2.f.take ((wi (((y2.2.2.2.2.f.length : Nat) : Int) - 1))).toNat).length : Nat) : Int) - 1)))), (98, vi ((((y2.2.2.2.2.f.take ((wi (((y2.2.2.2.2.f.length : Nat) : Int) - 1))).toNat).length : Nat) : Int))), (97, .slice (some ⟨rb88, ro88, none⟩) ((y2.2.2.2.2.f.take ((wi (((y2.2.2.2.2.f.length : Nat) : Int) - 1))).toNat).length) c75), (93, .slice (some ⟨rb88, ro88, none⟩) ((y2.2.2.2.2.f.take ((wi (((y2.2.2.2.2.f.length : Nat) : Int) - 1))).toNat).length) c75), (103, vp b54 2), (101, vp b54 1), (96, vp xb 0), (95, vp xb 0), (94, vp xb 0), (92, vp xb 0), (91, vp xb 0), (90, vp xb 0), (89, vp eb 0), (75, .bool (decide ((((y2.2.2.2.2.f.take ((wi (((y2.2.2.2.2.f.length : Nat) : Int) - 1))).toNat).length : Nat) : Int) = 0))), (74, vi ((((y2.2.2.2.2.f.take ((wi (((y2.2.2.2.2.f.length : Nat) : Int) - 1))).toNat).length : Nat) : Int))), (73, .slice (some ⟨rb88, ro88, none⟩) ((y2.2.2.2.2.f.take ((wi (((y2.2.2.2.2.f.length : Nat) : Int) - 1))).toNat).length) c75), (72, vp xb 0), (71, vp xb 0), (70, vp xb 0), (69, vp xb 0), (68, vp xb 0), (67, .slice (some ⟨rb88, ro88, none⟩) ((y2.2.2.2.2.f.take ((wi (((y2.2.2.2.2.f.length : Nat) : Int) - 1))).toNat).length) c75), (66, vi ((wi (((y2.2.2.2.2.f.length : Nat) : Int) - 1)))), (65, vi (((y2.2.2.2.2.f.length : Nat) : Int))), (64, .slice (some ⟨rb88, ro88, none⟩) y2.2.2.2.2.f.length c75), (60, .slice (some ⟨rb88, ro88, none⟩) y2.2.2.2.2.f.length c75), (63, vp xb 0), (62, vp xb 0), (61, vp xb 0), (59, vp xb 0), (58, vp xb 0), (57, vp xb 0), (56, vp xb 0), (55, .bool (y2.2.1.done)), (54, vp b54 0), (7, vp b54 0), (4, .bool (y2.1)), (0, vp xb 0), (1, vp eb 0)]) (fun rb88 ro88 => frsS (some ⟨rb88, ro88, none⟩) c75 (st_ (y2.2.2.2.2.f.take ((wi (((y2.2.2.2.2.f.length : Nat) : Int) - 1))).toNat) (wi ((((y2.2.2.2.2.f.take ((wi (((y2.2.2.2.2.f.length : Nat) : Int) - 1))).toNat).length : Nat) : Int) - 1)) r87.2.2.2) :: cP eb c l :: cfgL c l pl :: pts eb 19 [.slice RA r87.2.1.length RC] :: recsS RA RC r87.2.1 :: evsS eb 20 r87.2.2.1 :: pts xb 0 [.slice (some ⟨rb88, ro88, none⟩) ((y2.2.2.2.2.f.take ((wi (((y2.2.2.2.2.f.length : Nat) : Int) - 1))).toNat).length) c75, .bool (y2.2.2.2.2.over), vi y2.2.2.2.2.code, vi y2.2.2.2.2.value] :: pts b54 0 [.bool (r87.1.done), vi r87.1.code, vi r87.1.value] :: memS eb 11 r51.2.1 :: pts eb 17 [vi now] :: pts eb 18 [vi draw] :: [F]) ?_ (fun rb88 ro88 _ => (?_ : ET _ _ _ _ .normal _ _))
   ·refine ca 18 ?_
    refine at_key (X := fun A_ => A_ #[true, true, true, true, true, true, true, true, true, true, true, false, true, true, true, true, false, false] 3 [(104, vi y2.2.1.value), (102, vi y2.2.1.code), (99, vi ((wi ((((y2.2.2.2.2.f.take ((wi (((y2.2.2.2.2.f.length : Nat) : Int) - 1))).toNat).length : Nat) : Int) - 1)))), (98, vi ((((y2.2.2.2.2.f.take ((wi (((y2.2.2.2.2.f.length : Nat) : Int) - 1))).toNat).length : Nat) : Int))), (97, .slice A75 ((y2.2.2.2.2.f.take ((wi (((y2.2.2.2.2.f.length : Nat) : Int) - 1))).toNat).length) c75), (93, .slice A75 ((y2.2.2.2.2.f.take ((wi (((y2.2.2.2.2.f.length : Nat) : Int) - 1))).toNat).length) c75), (103, vp b54 2), (101, vp b54 1), (96, vp xb 0), (95, vp xb 0), (94, vp xb 0), (92, vp xb 0), (91, vp xb 0), (90, vp xb 0), (89, vp eb 0), (75, .bool (decide ((((y2.2.2.2.2.f.take ((wi (((y2.2.2.2.2.f.length : Nat) : Int) - 1))).toNat).length : Nat) : Int) = 0))), (74, vi ((((y2.2.2.2.2.f.take ((wi (((y2.2.2.2.2.f.length : Nat) : Int) - 1))).toNat).length : Nat) : Int))), (73, .slice A75 ((y2.2.2.2.2.f.take ((wi (((y2.2.2.2.2.f.length : Nat) : Int) - 1))).toNat).length) c75), (72, vp xb 0), (71, vp xb 0), (70, vp xb 0), (69, vp xb 0), (68, vp xb 0), (67, .slice A75 ((y2.2.2.2.2.f.take ((wi (((y2.2.2.2.2.f.length : Nat) : Int) - 1))).toNat).length) c75), (66, vi ((wi (((y2.2.2.2.2.f.length : Nat) : Int) - 1)))), (65, vi (((y2.2.2.2.2.f.length : Nat) : Int))), (64, .slice A75 y2.2.2.2.2.f.length c75), (60, .slice A75 y2.2.2.2.2.f.length c75), (63, vp xb 0), (62, vp xb 0), (61, vp xb 0), (59, vp xb 0), (58, vp xb 0), (57, vp xb 0), (56, vp xb 0), (55, .bool (y2.2.1.done)), (54, vp b54 0), (7, vp b54 0), (4, .bool (y2.1)), (0, vp xb 0), (1, vp eb 0)] (frsS A75 c75 (y2.2.2.2.2.f.take ((wi (((y2.2.2.2.2.f.length : Nat) : Int) - 1))).toNat) :: pts xb 0 [.slice A75 ((y2.2.2.2.2.f.take ((wi (((y2.2.2.2.2.f.length : Nat) : Int) - 1))).toNat).length) c75, .bool (y2.2.2.2.2.over), vi y2.2.2.2.2.code, vi y2.2.2.2.2.value] :: pts b54 0 [.bool (y2.2.1.done), vi y2.2.1.code, vi y2.2.1.value] :: cP eb c l :: cfgL c l pl :: memS eb 11 r51.2.1 :: pts eb 17 [vi now] :: pts eb 18 [vi draw] :: pts eb 19 [.slice RA y2.2.2.2.1.length RC] :: recsS RA RC y2.2.2.2.1 :: evsS eb 20 y2.2.2.1 :: [F])) ?_ (fun k97 => ?_)
    ·show AT _ _ _ _ _ _ _ _ _ _
     refine at_focus ((wi ((((y2.2.2.2.2.f.take ((wi (((y2.2.2.2.2.f.length : Nat) : Int) - 1))).toNat).length : Nat) : Int) - 1))).toNat pick0 (by omega) (fun rb98 ro98 hA99 => ?_)
     subst hA99
     rw [at_eq (by omega)]
     refine za 11 rfl (op_index (i := ((wi ((((y2.2.2.2.2.f.take ((wi (((y2.2.2.2.2.f.length : Nat) : Int) - 1))).toNat).length : Nat) : Int) - 1))).toNat) (o' := ro98 + ((wi ((((y2.2.2.2.2.f.take ((wi (((y2.2.2.2.2.f.length : Nat) : Int) - 1))).toNat).length : Nat) : Int) - 1))).toNat * 18) m5 m2 (by omega) (by have := g86; omega) (by kernel_rfl) rfl).q ?_
     refine tu 16 rfl (co (.cons m15 (.cons m0 (.cons m2 (.cons m1 .nil)))) (r8back_ok hr87 eb l pl RA RC rb98 (ro98 + ((wi ((((y2.2.2.2.2.f.take ((wi (((y2.2.2.2.2.f.length : Nat) : Int) - 1))).toNat).length : Nat) : Int) - 1))).toNat * 18) _ _) (p4 (p4 (p7 (p7 (p7 (p0 pn))))))) ?_
     refine tz 17 rfl (sta 0 (mU m19) m0 t8) ?_
     refine zz ?_
     exact pkE (p5 (p5 pn)) (tE (unfocus_st (xs := (y2.2.2.2.2.f.take ((wi (((y2.2.2.2.2.f.length : Nat) : Int) - 1))).toNat)) (by have := g86; omega)) (aK rb98 ro98 trivial (lc e0 (lc e2 (lc e3 (lc e1 (lc e4 (lc e5 (lc e6 (lc e7 (lc e8 (lc e9 (lc e10 (lc e11 (lc e12 (lc e13 (lc e14 (lc e15 (lc e16 (lc e17 (lc e18 (lc e19 (lc (eU e0) (lc (eU e1) (lc (eU e2) (lc (eU e3) (lc (eU e4) (lc (eU e5) (lc (eU e6) (lc (eU e7) (lc (eU e8) (lc (eU e9) (lc (eU e10) (lc (eU e11) (lc (eU e12) (lc (eU e13) (lc (eU e14) (lc (eU e15) (lc (eU e16) (lc (eU e17) (lc (eU e18) (lc (eU e19) (lc (eU (eU e0)) (lc (eU (eU e1)) (lc (eU (eU e2)) lN))))))))))))))))))))))))))))))))))))))))))) Ent.refl))
    refine at_key (X := fun A_ => A_ #[true, true, true, true, true, true, true, true, true, true, true, false, true, true, true, false, false, false] 4 [(102, vi y2.2.1.code), (99, vi ((wi ((((y2.2.2.2.2.f.take ((wi (((y2.2.2.2.2.f.length : Nat) : Int) - 1))).toNat).length : Nat) : Int) - 1)))), (98, vi ((((y2.2.2.2.2.f.take ((wi (((y2.2.2.2.2.f.length : Nat) : Int) - 1))).toNat).length : Nat) : Int))), (97, .slice A75 ((y2.2.2.2.2.f.take ((wi (((y2.2.2.2.2.f.length : Nat) : Int) - 1))).toNat).length) c75), (93, .slice A75 ((y2.2.2.2.2.f.take ((wi (((y2.2.2.2.2.f.length : Nat) : Int) - 1))).toNat).length) c75), (103, vp b54 2), (101, vp b54 1), (96, vp xb 0), (95, vp xb 0), (94, vp xb 0), (92, vp xb 0), (91, vp xb 0), (90, vp xb 0), (89, vp eb 0), (75, .bool (decide ((((y2.2.2.2.2.f.take ((wi (((y2.2.2.2.2.f.length : Nat) : Int) - 1))).toNat).length : Nat) : Int) = 0))), (74, vi ((((y2.2.2.2.2.f.take ((wi (((y2.2.2.2.2.f.length : Nat) : Int) - 1))).toNat).length : Nat) : Int))), (73, .slice A75 ((y2.2.2.2.2.f.take ((wi (((y2.2.2.2.2.f.length : Nat) : Int) - 1))).toNat).length) c75), (72, vp xb 0), (71, vp xb 0), (70, vp xb 0), (69, vp xb 0), (68, vp xb 0), (67, .slice A75 ((y2.2.2.2.2.f.take ((wi (((y2.2.2.2.2.f.length : Nat) : Int) - 1))).toNat).length) c75), (66, vi ((wi (((y2.2.2.2.2.f.length : Nat) : Int) - 1)))), (65, vi (((y2.2.2.2.2.f.length : Nat) : Int))), (64, .slice A75 y2.2.2.2.2.f.length c75), (60, .slice A75 y2.2.2.2.2.f.length c75), (63, vp xb 0), (62, vp xb 0), (61, vp xb 0), (59, vp xb 0), (58, vp xb 0), (57, vp xb 0), (56, vp xb 0), (55, .bool (y2.2.1.done)), (54, vp b54 0), (7, vp b54 0), (4, .bool (y2.1)), (0, vp xb 0), (1, vp eb 0)] (frsS A75 c75 (y2.2.2.2.2.f.take ((wi (((y2.2.2.2.2.f.length : Nat) : Int) - 1))).toNat) :: pts xb 0 [.slice A75 ((y2.2.2.2.2.f.take ((wi (((y2.2.2.2.2.f.length : Nat) : Int) - 1))).toNat).length) c75, .bool (y2.2.2.2.2.over), vi y2.2.2.2.2.code, vi y2.2.2.2.2.value] :: pts b54 0 [.bool (y2.2.1.done), vi y2.2.1.code, vi y2.2.1.value] :: cP eb c l :: cfgL c l pl :: memS eb 11 r51.2.1 :: pts eb 17 [vi now] :: pts eb 18 [vi draw] :: pts eb 19 [.slice RA y2.2.2.2.1.length RC] :: recsS RA RC y2.2.2.2.1 :: evsS eb 20 y2.2.2.1 :: [F])) ?_ (fun k100 => ?_)
    ·show AT _ _ _ _ _ _ _ _ _ _
     refine x2 11 15 ?_ ?_
     ·refine st_focus ((wi ((((y2.2.2.2.2.f.take ((wi (((y2.2.2.2.2.f.length : Nat) : Int) - 1))).toNat).length : Nat) : Int) - 1))).toNat pick0 (by omega) (fun rb101 ro101 hA102 => ?_)
      subst hA102
      rw [at_eq (by omega)]
      refine zs rfl (op_index (i := ((wi ((((y2.2.2.2.2.f.take ((wi (((y2.2.2.2.2.f.length : Nat) : Int) - 1))).toNat).length : Nat) : Int) - 1))).toNat) (o' := ro101 + ((wi ((((y2.2.2.2.2.f.take ((wi (((y2.2.2.2.2.f.length : Nat) : Int) - 1))).toNat).length : Nat) : Int) - 1))).toNat * 18) m4 m1 (by omega) (by have := g86; omega) (by kernel_rfl) rfl).q ?_
      refine za 15 rfl (ld 0 2 m6 e3 rfl) ?_
      refine tu 16 rfl (co (.cons m15 (.cons m1 (.cons m2 (.cons m0 .nil)))) (r8back_ok hr87 eb l pl RA RC rb101 (ro101 + ((wi ((((y2.2.2.2.2.f.take ((wi (((y2.2.2.2.2.f.length : Nat) : Int) - 1))).toNat).length : Nat) : Int) - 1))).toNat * 18) _ _) (p4 (p4 (p7 (p7 (p7 (p0 pn))))))) ?_
      refine tz 17 rfl (sta 0 (mU m19) m0 t8) ?_
      refine zz ?_
      exact pkE (p5 (p5 pn)) (tE (unfocus_st (xs := (y2.2.2.2.2.f.take ((wi (((y2.2.2.2.2.f.length : Nat) : Int) - 1))).toNat)) (by have := g86; omega)) (aK rb101 ro101 trivial (lc e0 (lc e1 (lc e3 (lc e2 (lc e4 (lc e5 (lc e6 (lc e7 (lc e8 (lc e9 (lc e10 (lc e11 (lc e12 (lc e13 (lc e14 (lc e15 (lc e16 (lc e17 (lc e18 (lc e19 (lc (eU e0) (lc (eU e1) (lc (eU e2) (lc (eU e3) (lc (eU e4) (lc (eU e5) (lc (eU e6) (lc (eU e7) (lc (eU e8) (lc (eU e9) (lc (eU e10) (lc (eU e11) (lc (eU e12) (lc (eU e13) (lc (eU e14) (lc (eU e15) (lc (eU e16) (lc (eU e17) (lc (eU e18) (lc (eU e19) (lc (eU (eU e0)) (lc (eU (eU e1)) (lc (eU (eU e2)) lN))))))))))))))))))))))))))))))))))))))))))) Ent.refl))
     refine zs rfl (ld 0 2 m5 e2 rfl) ?_
     exact at_use k97 (lc e0 (lc e1 (lc e2 (lc e3 (lc e4 (lc e5 (lc e6 (lc e7 (lc e8 (lc e9 (lc e10 (lc e11 (lc e12 (lc e13 (lc e14 (lc e15 (lc e16 (lc e17 (lc e18 (lc e19 (lc (eU e0) (lc (eU e1) (lc (eU e2) (lc (eU e3) (lc (eU e4) (lc (eU e5) (lc (eU e6) (lc (eU e7) (lc (eU e8) (lc (eU e9) (lc (eU e10) (lc (eU e11) (lc (eU e12) (lc (eU e13) (lc (eU e14) (lc (eU e15) (lc (eU e16) (lc (eU e17) (lc (eU e18) (lc (eU e19) (lc (eU (eU e0)) lN))))))))))))))))))))))))))))))))))))))))) Ent.refl
    refine at_key (X := fun A_ => A_ #[true, true, true, true, true, true, true, true, true, true, true, false, true, false, true, true, false, false] 4 [(104, vi y2.2.1.value), (99, vi ((wi ((((y2.2.2.2.2.f.take ((wi (((y2.2.2.2.2.f.length : Nat) : Int) - 1))).toNat).length : Nat) : Int) - 1)))), (98, vi ((((y2.2.2.2.2.f.take ((wi (((y2.2.2.2.2.f.length : Nat) : Int) - 1))).toNat).length : Nat) : Int))), (97, .slice A75 ((y2.2.2.2.2.f.take ((wi (((y2.2.2.2.2.f.length : Nat) : Int) - 1))).toNat).length) c75), (93, .slice A75 ((y2.2.2.2.2.f.take ((wi (((y2.2.2.2.2.f.length : Nat) : Int) - 1))).toNat).length) c75), (103, vp b54 2), (101, vp b54 1), (96, vp xb 0), (95, vp xb 0), (94, vp xb 0), (92, vp xb 0), (91, vp xb 0), (90, vp xb 0), (89, vp eb 0), (75, .bool (decide ((((y2.2.2.2.2.f.take ((wi (((y2.2.2.2.2.f.length : Nat) : Int) - 1))).toNat).length : Nat) : Int) = 0))), (74, vi ((((y2.2.2.2.2.f.take ((wi (((y2.2.2.2.2.f.length : Nat) : Int) - 1))).toNat).length : Nat) : Int))), (73, .slice A75 ((y2.2.2.2.2.f.take ((wi (((y2.2.2.2.2.f.length : Nat) : Int) - 1))).toNat).length) c75), (72, vp xb 0), (71, vp xb 0), (70, vp xb 0), (69, vp xb 0), (68, vp xb 0), (67, .slice A75 ((y2.2.2.2.2.f.take ((wi (((y2.2.2.2.2.f.length : Nat) : Int) - 1))).toNat).length) c75), (66, vi ((wi (((y2.2.2.2.2.f.length : Nat) : Int) - 1)))), (65, vi (((y2.2.2.2.2.f.length : Nat) : Int))), (64, .slice A75 y2.2.2.2.2.f.length c75), (60, .slice A75 y2.2.2.2.2.f.length c75), (63, vp xb 0), (62, vp xb 0), (61, vp xb 0), (59, vp xb 0), (58, vp xb 0), (57, vp xb 0), (56, vp xb 0), (55, .bool (y2.2.1.done)), (54, vp b54 0), (7, vp b54 0), (4, .bool (y2.1)), (0, vp xb 0), (1, vp eb 0)] (frsS A75 c75 (y2.2.2.2.2.f.take ((wi (((y2.2.2.2.2.f.length : Nat) : Int) - 1))).toNat) :: pts xb 0 [.slice A75 ((y2.2.2.2.2.f.take ((wi (((y2.2.2.2.2.f.length : Nat) : Int) - 1))).toNat).length) c75, .bool (y2.2.2.2.2.over), vi y2.2.2.2.2.code, vi y2.2.2.2.2.value] :: pts b54 0 [.bool (y2.2.1.done), vi y2.2.1.code, vi y2.2.1.value] :: cP eb c l :: cfgL c l pl :: memS eb 11 r51.2.1 :: pts eb 17 [vi now] :: pts eb 18 [vi draw] :: pts eb 19 [.slice RA y2.2.2.2.1.length RC] :: recsS RA RC y2.2.2.2.1 :: evsS eb 20 y2.2.2.1 :: [F])) ?_ (fun k103 => ?_)
    ·show AT _ _ _ _ _ _ _ _ _ _
     refine x2 11 13 ?_ ?_
     ·refine st_focus ((wi ((((y2.2.2.2.2.f.take ((wi (((y2.2.2.2.2.f.length : Nat) : Int) - 1))).toNat).length : Nat) : Int) - 1))).toNat pick0 (by omega) (fun rb104 ro104 hA105 => ?_)
      subst hA105
      rw [at_eq (by omega)]
      refine zs rfl (op_index (i := ((wi ((((y2.2.2.2.2.f.take ((wi (((y2.2.2.2.2.f.length : Nat) : Int) - 1))).toNat).length : Nat) : Int) - 1))).toNat) (o' := ro104 + ((wi ((((y2.2.2.2.2.f.take ((wi (((y2.2.2.2.2.f.length : Nat) : Int) - 1))).toNat).length : Nat) : Int) - 1))).toNat * 18) m4 m1 (by omega) (by have := g86; omega) (by kernel_rfl) rfl).q ?_
      refine za 13 rfl (ld 0 1 m7 e3 rfl) ?_
      refine tu 16 rfl (co (.cons m15 (.cons m1 (.cons m0 (.cons m2 .nil)))) (r8back_ok hr87 eb l pl RA RC rb104 (ro104 + ((wi ((((y2.2.2.2.2.f.take ((wi (((y2.2.2.2.2.f.length : Nat) : Int) - 1))).toNat).length : Nat) : Int) - 1))).toNat * 18) _ _) (p4 (p4 (p7 (p7 (p7 (p0 pn))))))) ?_
      refine tz 17 rfl (sta 0 (mU m19) m0 t8) ?_
      refine zz ?_
      exact pkE (p5 (p5 pn)) (tE (unfocus_st (xs := (y2.2.2.2.2.f.take ((wi (((y2.2.2.2.2.f.length : Nat) : Int) - 1))).toNat)) (by have := g86; omega)) (aK rb104 ro104 trivial (lc e0 (lc e3 (lc e1 (lc e2 (lc e4 (lc e5 (lc e6 (lc e7 (lc e8 (lc e9 (lc e10 (lc e11 (lc e12 (lc e13 (lc e14 (lc e15 (lc e16 (lc e17 (lc e18 (lc e19 (lc (eU e0) (lc (eU e1) (lc (eU e2) (lc (eU e3) (lc (eU e4) (lc (eU e5) (lc (eU e6) (lc (eU e7) (lc (eU e8) (lc (eU e9) (lc (eU e10) (lc (eU e11) (lc (eU e12) (lc (eU e13) (lc (eU e14) (lc (eU e15) (lc (eU e16) (lc (eU e17) (lc (eU e18) (lc (eU e19) (lc (eU (eU e0)) (lc (eU (eU e1)) (lc (eU (eU e2)) lN))))))))))))))))))))))))))))))))))))))))))) Ent.refl))
     refine zs rfl (ld 0 1 m6 e2 rfl) ?_
     exact at_use k97 (lc e1 (lc e0 (lc e2 (lc e3 (lc e4 (lc e5 (lc e6 (lc e7 (lc e8 (lc e9 (lc e10 (lc e11 (lc e12 (lc e13 (lc e14 (lc e15 (lc e16 (lc e17 (lc e18 (lc e19 (lc (eU e0) (lc (eU e1) (lc (eU e2) (lc (eU e3) (lc (eU e4) (lc (eU e5) (lc (eU e6) (lc (eU e7) (lc (eU e8) (lc (eU e9) (lc (eU e10) (lc (eU e11) (lc (eU e12) (lc (eU e13) (lc (eU e14) (lc (eU e15) (lc (eU e16) (lc (eU e17) (lc (eU e18) (lc (eU e19) (lc (eU (eU e0)) lN))))))))))))))))))))))))))))))))))))))))) Ent.refl
    refine zt 0 rfl (mv (mU m5)) ?_
    refine zt 1 rfl (mv (mU m5)) ?_
    refine zt 2 rfl (nc m0) ?_
    refine zt 3 rfl (fd 0 0 m0) ?_
    refine zt 5 rfl (mv (mU m8)) ?_
    refine zt 6 rfl (nc m0) ?_
    refine zt 7 rfl (fd 0 0 m0) ?_
    refine zt 12 rfl (fd 1 1 (mU m9)) ?_
    refine zt 14 rfl (fd 2 2 (mU m10)) ?_
    refine at_each (H := [4, 8, 13, 15]) (by kernel_rfl) rfl (each_cons ?_ (each_cons ?_ (each_cons ?_ (each_cons ?_ each_nil))))
    ·refine zs rfl (ld 0 0 m5 e1 rfl) ?_
     refine x3 8 13 15 ?_ ?_ ?_
     ·refine zs rfl (ld 0 0 m3 e1 rfl) ?_
      refine zt 9 rfl (op_len m0 Tryz.underlying120) ?_
      refine zt 10 rfl (op_subI m0 .const) ?_
      refine x3 11 13 15 ?_ ?_ ?_
      ·refine st_focus ((wi ((((y2.2.2.2.2.f.take ((wi (((y2.2.2.2.2.f.length : Nat) : Int) - 1))).toNat).length : Nat) : Int) - 1))).toNat pick0 (by omega) (fun rb114 ro114 hA115 => ?_)
       subst hA115
       rw [at_eq (by omega)]
       refine zs rfl (op_index (i := ((wi ((((y2.2.2.2.2.f.take ((wi (((y2.2.2.2.2.f.length : Nat) : Int) - 1))).toNat).length : Nat) : Int) - 1))).toNat) (o' := ro114 + ((wi ((((y2.2.2.2.2.f.take ((wi (((y2.2.2.2.2.f.length : Nat) : Int) - 1))).toNat).length : Nat) : Int) - 1))).toNat * 18) m3 m0 (by omega) (by have := g86; omega) (by kernel_rfl) rfl).q ?_
       refine at_group [13, 15] 2 rfl (by kernel_rfl) rfl ?_
       refine yq (ld 0 1 m6 e3 rfl) (yq (ld 0 2 m6 e3 rfl) (qN (tu 16 rfl (co (.cons m15 (.cons m2 (.cons m1 (.cons m0 .nil)))) (r8back_ok hr87 eb l pl RA RC rb114 (ro114 + ((wi ((((y2.2.2.2.2.f.take ((wi (((y2.2.2.2.2.f.length : Nat) : Int) - 1))).toNat).length : Nat) : Int) - 1))).toNat * 18) _ _) (p4 (p4 (p7 (p7 (p7 (p0 pn))))))) ?_)))
       refine tz 17 rfl (sta 0 (mU m19) m0 t8) ?_
       refine zz ?_
       exact pkE (p5 (p5 pn)) (tE (unfocus_st (xs := (y2.2.2.2.2.f.take ((wi (((y2.2.2.2.2.f.length : Nat) : Int) - 1))).toNat)) (by have := g86; omega)) (aK rb114 ro114 trivial (lc e0 (lc e1 (lc e2 (lc e3 (lc e4 (lc e5 (lc e6 (lc e7 (lc e8 (lc e9 (lc e10 (lc e11 (lc e12 (lc e13 (lc e14 (lc e15 (lc e16 (lc e17 (lc e18 (lc e19 (lc (eU e0) (lc (eU e1) (lc (eU e2) (lc (eU e3) (lc (eU e4) (lc (eU e5) (lc (eU e6) (lc (eU e7) (lc (eU e8) (lc (eU e9) (lc (eU e10) (lc (eU e11) (lc (eU e12) (lc (eU e13) (lc (eU e14) (lc (eU e15) (lc (eU e16) (lc (eU e17) (lc (eU e18) (lc (eU e19) (lc (eU (eU e0)) (lc (eU (eU e1)) (lc (eU (eU e2)) lN))))))))))))))))))))))))))))))))))))))))))) Ent.refl))
      ·refine zs rfl (ld 0 1 m5 e2 rfl) ?_
       exact at_use k100 (lc e0 (lc e1 (lc e2 (lc e3 (lc e4 (lc e5 (lc e6 (lc e7 (lc e8 (lc e9 (lc e10 (lc e11 (lc e12 (lc e13 (lc e14 (lc e15 (lc e16 (lc e17 (lc e18 (lc e19 (lc (eU e0) (lc (eU e1) (lc (eU e2) (lc (eU e3) (lc (eU e4) (lc (eU e5) (lc (eU e6) (lc (eU e7) (lc (eU e8) (lc (eU e9) (lc (eU e10) (lc (eU e11) (lc (eU e12) (lc (eU e13) (lc (eU e14) (lc (eU e15) (lc (eU e16) (lc (eU e17) (lc (eU e18) (lc (eU e19) lN)))))))))))))))))))))))))))))))))))))))) Ent.refl
      refine zs rfl (ld 0 2 m4 e2 rfl) ?_
      exact at_use k103 (lc e0 (lc e1 (lc e2 (lc e3 (lc e4 (lc e5 (lc e6 (lc e7 (lc e8 (lc e9 (lc e10 (lc e11 (lc e12 (lc e13 (lc e14 (lc e15 (lc e16 (lc e17 (lc e18 (lc e19 (lc (eU e0) (lc (eU e1) (lc (eU e2) (lc (eU e3) (lc (eU e4) (lc (eU e5) (lc (eU e6) (lc (eU e7) (lc (eU e8) (lc (eU e9) (lc (eU e10) (lc (eU e11) (lc (eU e12) (lc (eU e13) (lc (eU e14) (lc (eU e15) (lc (eU e16) (lc (eU e17) (lc (eU e18) (lc (eU e19) lN)))))))))))))))))))))))))))))))))))))))) Ent.refl
     ·refine zs rfl (ld 0 1 m2 e2 rfl) ?_
      refine x2 8 15 ?_ ?_
      ·refine zs rfl (ld 0 0 m4 e1 rfl) ?_
       refine zt 9 rfl (op_len m0 Tryz.underlying120) ?_
       refine zt 10 rfl (op_subI m0 .const) ?_
       exact at_use k100 (lc e3 (lc e0 (lc e1 (lc e2 (lc e4 (lc e5 (lc e6 (lc e7 (lc e8 (lc e9 (lc e10 (lc e11 (lc e12 (lc e13 (lc e14 (lc e15 (lc e16 (lc e17 (lc e18 (lc e19 (lc (eU e0) (lc (eU e1) (lc (eU e2) (lc (eU e3) (lc (eU e4) (lc (eU e5) (lc (eU e6) (lc (eU e7) (lc (eU e8) (lc (eU e9) (lc (eU e10) (lc (eU e11) (lc (eU e12) (lc (eU e13) (lc (eU e14) (lc (eU e15) (lc (eU e16) (lc (eU e17) (lc (eU e18) (lc (eU e19) lN)))))))))))))))))))))))))))))))))))))))) Ent.refl
      refine zs rfl (ld 0 2 m2 e2 rfl) ?_
      refine za 8 rfl (ld 0 0 m5 e1 rfl) ?_
      refine zt 9 rfl (op_len m0 Tryz.underlying120) ?_
      refine zt 10 rfl (op_subI m0 .const) ?_
      exact at_use k97 (lc e3 (lc e4 (lc e0 (lc e1 (lc e2 (lc e5 (lc e6 (lc e7 (lc e8 (lc e9 (lc e10 (lc e11 (lc e12 (lc e13 (lc e14 (lc e15 (lc e16 (lc e17 (lc e18 (lc e19 (lc (eU e0) (lc (eU e1) (lc (eU e2) (lc (eU e3) (lc (eU e4) (lc (eU e5) (lc (eU e6) (lc (eU e7) (lc (eU e8) (lc (eU e9) (lc (eU e10) (lc (eU e11) (lc (eU e12) (lc (eU e13) (lc (eU e14) (lc (eU e15) (lc (eU e16) (lc (eU e17) (lc (eU e18) (lc (eU e19) (lc (eU (eU e0)) lN))))))))))))))))))))))))))))))))))))))))) Ent.refl
     refine zs rfl (ld 0 2 m1 e2 rfl) ?_
     refine x2 8 13 ?_ ?_
     ·refine zs rfl (ld 0 0 m4 e1 rfl) ?_
      refine zt 9 rfl (op_len m0 Tryz.underlying120) ?_
      refine zt 10 rfl (op_subI m0 .const) ?_
      exact at_use k103 (lc e3 (lc e0 (lc e1 (lc e2 (lc e4 (lc e5 (lc e6 (lc e7 (lc e8 (lc e9 (lc e10 (lc e11 (lc e12 (lc e13 (lc e14 (lc e15 (lc e16 (lc e17 (lc e18 (lc e19 (lc (eU e0) (lc (eU e1) (lc (eU e2) (lc (eU e3) (lc (eU e4) (lc (eU e5) (lc (eU e6) (lc (eU e7) (lc (eU e8) (lc (eU e9) (lc (eU e10) (lc (eU e11) (lc (eU e12) (lc (eU e13) (lc (eU e14) (lc (eU e15) (lc (eU e16) (lc (eU e17) (lc (eU e18) (lc (eU e19) lN)))))))))))))))))))))))))))))))))))))))) Ent.refl
     refine zs rfl (ld 0 1 m3 e2 rfl) ?_
     refine za 8 rfl (ld 0 0 m5 e1 rfl) ?_
     refine zt 9 rfl (op_len m0 Tryz.underlying120) ?_
     refine zt 10 rfl (op_subI m0 .const) ?_
     exact at_use k97 (lc e4 (lc e3 (lc e0 (lc e1 (lc e2 (lc e5 (lc e6 (lc e7 (lc e8 (lc e9 (lc e10 (lc e11 (lc e12 (lc e13 (lc e14 (lc e15 (lc e16 (lc e17 (lc e18 (lc e19 (lc (eU e0) (lc (eU e1) (lc (eU e2) (lc (eU e3) (lc (eU e4) (lc (eU e5) (lc (eU e6) (lc (eU e7) (lc (eU e8) (lc (eU e9) (lc (eU e10) (lc (eU e11) (lc (eU e12) (lc (eU e13) (lc (eU e14) (lc (eU e15) (lc (eU e16) (lc (eU e17) (lc (eU e18) (lc (eU e19) (lc (eU (eU e0)) lN))))))))))))))))))))))))))))))))))))))))) Ent.refl
    ·refine zs rfl (ld 0 0 m2 e1 rfl) ?_
     refine zt 9 rfl (op_len m0 Tryz.underlying120) ?_
     refine zt 10 rfl (op_subI m0 .const) ?_
     refine x3 4 13 15 ?_ ?_ ?_
     ·refine zs rfl (ld 0 0 m8 e1 rfl) ?_
      refine x3 11 13 15 ?_ ?_ ?_
      ·refine st_focus ((wi ((((y2.2.2.2.2.f.take ((wi (((y2.2.2.2.2.f.length : Nat) : Int) - 1))).toNat).length : Nat) : Int) - 1))).toNat pick0 (by omega) (fun rb116 ro116 hA117 => ?_)
       subst hA117
       rw [at_eq (by omega)]
       refine zs rfl (op_index (i := ((wi ((((y2.2.2.2.2.f.take ((wi (((y2.2.2.2.2.f.length : Nat) : Int) - 1))).toNat).length : Nat) : Int) - 1))).toNat) (o' := ro116 + ((wi ((((y2.2.2.2.2.f.take ((wi (((y2.2.2.2.2.f.length : Nat) : Int) - 1))).toNat).length : Nat) : Int) - 1))).toNat * 18) m0 m1 (by omega) (by have := g86; omega) (by kernel_rfl) rfl).q ?_
       refine at_group [13, 15] 2 rfl (by kernel_rfl) rfl ?_
       refine yq (ld 0 1 m6 e3 rfl) (yq (ld 0 2 m6 e3 rfl) (qN (tu 16 rfl (co (.cons m15 (.cons m2 (.cons m1 (.cons m0 .nil)))) (r8back_ok hr87 eb l pl RA RC rb116 (ro116 + ((wi ((((y2.2.2.2.2.f.take ((wi (((y2.2.2.2.2.f.length : Nat) : Int) - 1))).toNat).length : Nat) : Int) - 1))).toNat * 18) _ _) (p4 (p4 (p7 (p7 (p7 (p0 pn))))))) ?_)))
       refine tz 17 rfl (sta 0 (mU m19) m0 t8) ?_
       refine zz ?_
       exact pkE (p5 (p5 pn)) (tE (unfocus_st (xs := (y2.2.2.2.2.f.take ((wi (((y2.2.2.2.2.f.length : Nat) : Int) - 1))).toNat)) (by have := g86; omega)) (aK rb116 ro116 trivial (lc e0 (lc e1 (lc e2 (lc e3 (lc e5 (lc e6 (lc e7 (lc e4 (lc e8 (lc e9 (lc e10 (lc e11 (lc e12 (lc e13 (lc e14 (lc e15 (lc e16 (lc e17 (lc e18 (lc e19 (lc (eU e0) (lc (eU e1) (lc (eU e2) (lc (eU e3) (lc (eU e4) (lc (eU e5) (lc (eU e6) (lc (eU e7) (lc (eU e8) (lc (eU e9) (lc (eU e10) (lc (eU e11) (lc (eU e12) (lc (eU e13) (lc (eU e14) (lc (eU e15) (lc (eU e16) (lc (eU e17) (lc (eU e18) (lc (eU e19) (lc (eU (eU e0)) (lc (eU (eU e1)) (lc (eU (eU e2)) lN))))))))))))))))))))))))))))))))))))))))))) Ent.refl))
      ·refine zs rfl (ld 0 1 m5 e2 rfl) ?_
       exact at_use k100 (lc e0 (lc e2 (lc e3 (lc e4 (lc e1 (lc e5 (lc e6 (lc e7 (lc e8 (lc e9 (lc e10 (lc e11 (lc e12 (lc e13 (lc e14 (lc e15 (lc e16 (lc e17 (lc e18 (lc e19 (lc (eU e0) (lc (eU e1) (lc (eU e2) (lc (eU e3) (lc (eU e4) (lc (eU e5) (lc (eU e6) (lc (eU e7) (lc (eU e8) (lc (eU e9) (lc (eU e10) (lc (eU e11) (lc (eU e12) (lc (eU e13) (lc (eU e14) (lc (eU e15) (lc (eU e16) (lc (eU e17) (lc (eU e18) (lc (eU e19) lN)))))))))))))))))))))))))))))))))))))))) Ent.refl
      refine zs rfl (ld 0 2 m4 e2 rfl) ?_
      exact at_use k103 (lc e0 (lc e2 (lc e3 (lc e4 (lc e1 (lc e5 (lc e6 (lc e7 (lc e8 (lc e9 (lc e10 (lc e11 (lc e12 (lc e13 (lc e14 (lc e15 (lc e16 (lc e17 (lc e18 (lc e19 (lc (eU e0) (lc (eU e1) (lc (eU e2) (lc (eU e3) (lc (eU e4) (lc (eU e5) (lc (eU e6) (lc (eU e7) (lc (eU e8) (lc (eU e9) (lc (eU e10) (lc (eU e11) (lc (eU e12) (lc (eU e13) (lc (eU e14) (lc (eU e15) (lc (eU e16) (lc (eU e17) (lc (eU e18) (lc (eU e19) lN)))))))))))))))))))))))))))))))))))))))) Ent.refl
     ·refine zs rfl (ld 0 1 m4 e2 rfl) ?_
      refine x2 4 15 ?_ ?_
      ·refine zs rfl (ld 0 0 m9 e1 rfl) ?_
       exact at_use k100 (lc e1 (lc e2 (lc e3 (lc e4 (lc e0 (lc e5 (lc e6 (lc e7 (lc e8 (lc e9 (lc e10 (lc e11 (lc e12 (lc e13 (lc e14 (lc e15 (lc e16 (lc e17 (lc e18 (lc e19 (lc (eU e0) (lc (eU e1) (lc (eU e2) (lc (eU e3) (lc (eU e4) (lc (eU e5) (lc (eU e6) (lc (eU e7) (lc (eU e8) (lc (eU e9) (lc (eU e10) (lc (eU e11) (lc (eU e12) (lc (eU e13) (lc (eU e14) (lc (eU e15) (lc (eU e16) (lc (eU e17) (lc (eU e18) (lc (eU e19) lN)))))))))))))))))))))))))))))))))))))))) Ent.refl
      refine zs rfl (ld 0 2 m4 e2 rfl) ?_
      refine za 4 rfl (ld 0 0 m10 e1 rfl) ?_
      exact at_use k97 (lc e1 (lc e2 (lc e3 (lc e4 (lc e5 (lc e0 (lc e6 (lc e7 (lc e8 (lc e9 (lc e10 (lc e11 (lc e12 (lc e13 (lc e14 (lc e15 (lc e16 (lc e17 (lc e18 (lc e19 (lc (eU e0) (lc (eU e1) (lc (eU e2) (lc (eU e3) (lc (eU e4) (lc (eU e5) (lc (eU e6) (lc (eU e7) (lc (eU e8) (lc (eU e9) (lc (eU e10) (lc (eU e11) (lc (eU e12) (lc (eU e13) (lc (eU e14) (lc (eU e15) (lc (eU e16) (lc (eU e17) (lc (eU e18) (lc (eU e19) (lc (eU (eU e0)) lN))))))))))))))))))))))))))))))))))))))))) Ent.refl
     refine zs rfl (ld 0 2 m3 e2 rfl) ?_
     refine x2 4 13 ?_ ?_
     ·refine zs rfl (ld 0 0 m9 e1 rfl) ?_
      exact at_use k103 (lc e1 (lc e2 (lc e3 (lc e4 (lc e0 (lc e5 (lc e6 (lc e7 (lc e8 (lc e9 (lc e10 (lc e11 (lc e12 (lc e13 (lc e14 (lc e15 (lc e16 (lc e17 (lc e18 (lc e19 (lc (eU e0) (lc (eU e1) (lc (eU e2) (lc (eU e3) (lc (eU e4) (lc (eU e5) (lc (eU e6) (lc (eU e7) (lc (eU e8) (lc (eU e9) (lc (eU e10) (lc (eU e11) (lc (eU e12) (lc (eU e13) (lc (eU e14) (lc (eU e15) (lc (eU e16) (lc (eU e17) (lc (eU e18) (lc (eU e19) lN)))))))))))))))))))))))))))))))))))))))) Ent.refl
     refine zs rfl (ld 0 1 m5 e2 rfl) ?_
     refine za 4 rfl (ld 0 0 m10 e1 rfl) ?_
     exact at_use k97 (lc e2 (lc e1 (lc e3 (lc e4 (lc e5 (lc e0 (lc e6 (lc e7 (lc e8 (lc e9 (lc e10 (lc e11 (lc e12 (lc e13 (lc e14 (lc e15 (lc e16 (lc e17 (lc e18 (lc e19 (lc (eU e0) (lc (eU e1) (lc (eU e2) (lc (eU e3) (lc (eU e4) (lc (eU e5) (lc (eU e6) (lc (eU e7) (lc (eU e8) (lc (eU e9) (lc (eU e10) (lc (eU e11) (lc (eU e12) (lc (eU e13) (lc (eU e14) (lc (eU e15) (lc (eU e16) (lc (eU e17) (lc (eU e18) (lc (eU e19) (lc (eU (eU e0)) lN))))))))))))))))))))))))))))))))))))))))) Ent.refl
    ·refine zs rfl (ld 0 1 m1 e2 rfl) ?_
     refine x3 4 8 15 ?_ ?_ ?_
     ·refine zs rfl (ld 0 0 m6 e1 rfl) ?_
      refine x2 8 15 ?_ ?_
      ·refine zs rfl (ld 0 0 m4 e1 rfl) ?_
       refine zt 9 rfl (op_len m0 Tryz.underlying120) ?_
       refine zt 10 rfl (op_subI m0 .const) ?_
       exact at_use k100 (lc e4 (lc e0 (lc e1 (lc e2 (lc e3 (lc e5 (lc e6 (lc e7 (lc e8 (lc e9 (lc e10 (lc e11 (lc e12 (lc e13 (lc e14 (lc e15 (lc e16 (lc e17 (lc e18 (lc e19 (lc (eU e0) (lc (eU e1) (lc (eU e2) (lc (eU e3) (lc (eU e4) (lc (eU e5) (lc (eU e6) (lc (eU e7) (lc (eU e8) (lc (eU e9) (lc (eU e10) (lc (eU e11) (lc (eU e12) (lc (eU e13) (lc (eU e14) (lc (eU e15) (lc (eU e16) (lc (eU e17) (lc (eU e18) (lc (eU e19) lN)))))))))))))))))))))))))))))))))))))))) Ent.refl
      refine zs rfl (ld 0 2 m2 e2 rfl) ?_
      refine za 8 rfl (ld 0 0 m5 e1 rfl) ?_
      refine zt 9 rfl (op_len m0 Tryz.underlying120) ?_
      refine zt 10 rfl (op_subI m0 .const) ?_
      exact at_use k97 (lc e3 (lc e5 (lc e0 (lc e1 (lc e2 (lc e4 (lc e6 (lc e7 (lc e8 (lc e9 (lc e10 (lc e11 (lc e12 (lc e13 (lc e14 (lc e15 (lc e16 (lc e17 (lc e18 (lc e19 (lc (eU e0) (lc (eU e1) (lc (eU e2) (lc (eU e3) (lc (eU e4) (lc (eU e5) (lc (eU e6) (lc (eU e7) (lc (eU e8) (lc (eU e9) (lc (eU e10) (lc (eU e11) (lc (eU e12) (lc (eU e13) (lc (eU e14) (lc (eU e15) (lc (eU e16) (lc (eU e17) (lc (eU e18) (lc (eU e19) (lc (eU (eU e0)) lN))))))))))))))))))))))))))))))))))))))))) Ent.refl
     ·refine zs rfl (ld 0 0 m3 e1 rfl) ?_
      refine zt 9 rfl (op_len m0 Tryz.underlying120) ?_
      refine zt 10 rfl (op_subI m0 .const) ?_
      refine x2 4 15 ?_ ?_
      ·refine zs rfl (ld 0 0 m9 e1 rfl) ?_
       exact at_use k100 (lc e4 (lc e1 (lc e2 (lc e3 (lc e0 (lc e5 (lc e6 (lc e7 (lc e8 (lc e9 (lc e10 (lc e11 (lc e12 (lc e13 (lc e14 (lc e15 (lc e16 (lc e17 (lc e18 (lc e19 (lc (eU e0) (lc (eU e1) (lc (eU e2) (lc (eU e3) (lc (eU e4) (lc (eU e5) (lc (eU e6) (lc (eU e7) (lc (eU e8) (lc (eU e9) (lc (eU e10) (lc (eU e11) (lc (eU e12) (lc (eU e13) (lc (eU e14) (lc (eU e15) (lc (eU e16) (lc (eU e17) (lc (eU e18) (lc (eU e19) lN)))))))))))))))))))))))))))))))))))))))) Ent.refl
      refine zs rfl (ld 0 2 m4 e2 rfl) ?_
      refine za 4 rfl (ld 0 0 m10 e1 rfl) ?_
      exact at_use k97 (lc e1 (lc e5 (lc e2 (lc e3 (lc e4 (lc e0 (lc e6 (lc e7 (lc e8 (lc e9 (lc e10 (lc e11 (lc e12 (lc e13 (lc e14 (lc e15 (lc e16 (lc e17 (lc e18 (lc e19 (lc (eU e0) (lc (eU e1) (lc (eU e2) (lc (eU e3) (lc (eU e4) (lc (eU e5) (lc (eU e6) (lc (eU e7) (lc (eU e8) (lc (eU e9) (lc (eU e10) (lc (eU e11) (lc (eU e12) (lc (eU e13) (lc (eU e14) (lc (eU e15) (lc (eU e16) (lc (eU e17) (lc (eU e18) (lc (eU e19) (lc (eU (eU e0)) lN))))))))))))))))))))))))))))))))))))))))) Ent.refl
     refine zs rfl (ld 0 2 m1 e2 rfl) ?_
     refine at_group [4, 8, 9, 10] 3 rfl (by kernel_rfl) rfl ?_
     exact yq (ld 0 0 m7 e1 rfl) (yq (ld 0 0 m5 e1 rfl) (yp (op_len m0 Tryz.underlying120) (yp (op_subI m0 .const) (qN (at_use k97 (lc e4 (lc e5 (lc e0 (lc e1 (lc e2 (lc e3 (lc e6 (lc e7 (lc e8 (lc e9 (lc e10 (lc e11 (lc e12 (lc e13 (lc e14 (lc e15 (lc e16 (lc e17 (lc e18 (lc e19 (lc (eU e0) (lc (eU e1) (lc (eU e2) (lc (eU e3) (lc (eU e4) (lc (eU e5) (lc (eU e6) (lc (eU e7) (lc (eU e8) (lc (eU e9) (lc (eU e10) (lc (eU e11) (lc (eU e12) (lc (eU e13) (lc (eU e14) (lc (eU e15) (lc (eU e16) (lc (eU e17) (lc (eU e18) (lc (eU e19) (lc (eU (eU e0)) lN))))))))))))))))))))))))))))))))))))))))) Ent.refl)))))
    refine zs rfl (ld 0 2 m0 e2 rfl) ?_
    refine x3 4 8 13 ?_ ?_ ?_
    ·refine zs rfl (ld 0 0 m6 e1 rfl) ?_
     refine x2 8 13 ?_ ?_
     ·refine zs rfl (ld 0 0 m4 e1 rfl) ?_
      refine zt 9 rfl (op_len m0 Tryz.underlying120) ?_
      refine zt 10 rfl (op_subI m0 .const) ?_
      exact at_use k103 (lc e4 (lc e0 (lc e1 (lc e2 (lc e3 (lc e5 (lc e6 (lc e7 (lc e8 (lc e9 (lc e10 (lc e11 (lc e12 (lc e13 (lc e14 (lc e15 (lc e16 (lc e17 (lc e18 (lc e19 (lc (eU e0) (lc (eU e1) (lc (eU e2) (lc (eU e3) (lc (eU e4) (lc (eU e5) (lc (eU e6) (lc (eU e7) (lc (eU e8) (lc (eU e9) (lc (eU e10) (lc (eU e11) (lc (eU e12) (lc (eU e13) (lc (eU e14) (lc (eU e15) (lc (eU e16) (lc (eU e17) (lc (eU e18) (lc (eU e19) lN)))))))))))))))))))))))))))))))))))))))) Ent.refl
     refine zs rfl (ld 0 1 m3 e2 rfl) ?_
     refine za 8 rfl (ld 0 0 m5 e1 rfl) ?_
     refine zt 9 rfl (op_len m0 Tryz.underlying120) ?_
     refine zt 10 rfl (op_subI m0 .const) ?_
     exact at_use k97 (lc e5 (lc e3 (lc e0 (lc e1 (lc e2 (lc e4 (lc e6 (lc e7 (lc e8 (lc e9 (lc e10 (lc e11 (lc e12 (lc e13 (lc e14 (lc e15 (lc e16 (lc e17 (lc e18 (lc e19 (lc (eU e0) (lc (eU e1) (lc (eU e2) (lc (eU e3) (lc (eU e4) (lc (eU e5) (lc (eU e6) (lc (eU e7) (lc (eU e8) (lc (eU e9) (lc (eU e10) (lc (eU e11) (lc (eU e12) (lc (eU e13) (lc (eU e14) (lc (eU e15) (lc (eU e16) (lc (eU e17) (lc (eU e18) (lc (eU e19) (lc (eU (eU e0)) lN))))))))))))))))))))))))))))))))))))))))) Ent.refl
    ·refine zs rfl (ld 0 0 m3 e1 rfl) ?_
     refine zt 9 rfl (op_len m0 Tryz.underlying120) ?_
     refine zt 10 rfl (op_subI m0 .const) ?_
     refine x2 4 13 ?_ ?_
     ·refine zs rfl (ld 0 0 m9 e1 rfl) ?_
      exact at_use k103 (lc e4 (lc e1 (lc e2 (lc e3 (lc e0 (lc e5 (lc e6 (lc e7 (lc e8 (lc e9 (lc e10 (lc e11 (lc e12 (lc e13 (lc e14 (lc e15 (lc e16 (lc e17 (lc e18 (lc e19 (lc (eU e0) (lc (eU e1) (lc (eU e2) (lc (eU e3) (lc (eU e4) (lc (eU e5) (lc (eU e6) (lc (eU e7) (lc (eU e8) (lc (eU e9) (lc (eU e10) (lc (eU e11) (lc (eU e12) (lc (eU e13) (lc (eU e14) (lc (eU e15) (lc (eU e16) (lc (eU e17) (lc (eU e18) (lc (eU e19) lN)))))))))))))))))))))))))))))))))))))))) Ent.refl
     refine zs rfl (ld 0 1 m5 e2 rfl) ?_
     refine za 4 rfl (ld 0 0 m10 e1 rfl) ?_
     exact at_use k97 (lc e5 (lc e1 (lc e2 (lc e3 (lc e4 (lc e0 (lc e6 (lc e7 (lc e8 (lc e9 (lc e10 (lc e11 (lc e12 (lc e13 (lc e14 (lc e15 (lc e16 (lc e17 (lc e18 (lc e19 (lc (eU e0) (lc (eU e1) (lc (eU e2) (lc (eU e3) (lc (eU e4) (lc (eU e5) (lc (eU e6) (lc (eU e7) (lc (eU e8) (lc (eU e9) (lc (eU e10) (lc (eU e11) (lc (eU e12) (lc (eU e13) (lc (eU e14) (lc (eU e15) (lc (eU e16) (lc (eU e17) (lc (eU e18) (lc (eU e19) (lc (eU (eU e0)) lN))))))))))))))))))))))))))))))))))))))))) Ent.refl
    refine zs rfl (ld 0 1 m2 e2 rfl) ?_
    refine at_group [4, 8, 9, 10] 3 rfl (by kernel_rfl) rfl ?_
    exact yq (ld 0 0 m7 e1 rfl) (yq (ld 0 0 m5 e1 rfl) (yp (op_len m0 Tryz.underlying120) (yp (op_subI m0 .const) (qN (at_use k97 (lc e5 (lc e4 (lc e0 (lc e1 (lc e2 (lc e3 (lc e6 (lc e7 (lc e8 (lc e9 (lc e10 (lc e11 (lc e12 (lc e13 (lc e14 (lc e15 (lc e16 (lc e17 (lc e18 (lc e19 (lc (eU e0) (lc (eU e1) (lc (eU e2) (lc (eU e3) (lc (eU e4) (lc (eU e5) (lc (eU e6) (lc (eU e7) (lc (eU e8) (lc (eU e9) (lc (eU e10) (lc (eU e11) (lc (eU e12) (lc (eU e13) (lc (eU e14) (lc (eU e15) (lc (eU e16) (lc (eU e17) (lc (eU e18) (lc (eU e19) (lc (eU (eU e0)) lN))))))))))))))))))))))))))))))))))))))))) Ent.refl)))))
   exact tB (pkE (p6 pn) (tE (mach_shut (m := ({ y2.2.2.2.2 with f := (st_ (y2.2.2.2.2.f.take ((wi (((y2.2.2.2.2.f.length : Nat) : Int) - 1))).toNat) (wi ((((y2.2.2.2.2.f.take ((wi (((y2.2.2.2.2.f.length : Nat) : Int) - 1))).toNat).length : Nat) : Int) - 1)) r87.2.2.2) } : MaV)) (by simp [st_])) (aK (y2.1, r87.1, r87.2.2.1, r87.2.1, ({ y2.2.2.2.2 with f := (st_ (y2.2.2.2.2.f.take ((wi (((y2.2.2.2.2.f.length : Nat) : Int) - 1))).toNat) (wi ((((y2.2.2.2.2.f.take ((wi (((y2.2.2.2.2.f.length : Nat) : Int) - 1))).toNat).length : Nat) : Int) - 1)) r87.2.2.2) } : MaV)) () hz2 (lc (eU e19) (lc (eU (eU e0)) (lc (eU (eU e1)) (lc (eU (eU e2)) lN)))) (eP (p0 (p5 (p0 (p0 (p3 (p3 (p3 pn)))))))))))
  refine cX (tX (tX (bH (tE (mach_shut (m := y2.2.2.2.2) rfl) ?_))))
  obtain rfl := sI hz2
  exact aK (y2.1, y2.2.1, y2.2.2.1, y2.2.2.2.1, y2.2.2.2.2) () rfl (lc e3 lN) Ent.refl
 replace hs := sK_r hy2 hs
 clear hy2
 refine q2 (zo (asg .const) pick0 (q4 ?_))
 obtain rfl := sI hs
 exact et_fn () rfl (.cons e0 .nil) rfl (d1 (eP (p1 pn)))
end
end Go.Proofs.YtpbkelpokpglaaaGreat
