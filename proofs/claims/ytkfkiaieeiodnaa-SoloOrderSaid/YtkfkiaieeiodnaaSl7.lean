/- Slices: of the call's own (rows), and slices that came in. No program occurs here. -/
import Derived.Test.YtkfkiaieeiodnaaSl6
namespace Go.Proofs.Ytkfkiaieeiodnaa
open Go Go.RowKit

/-- The address of cell k behind the slice's address. -/
def idx (A : Option Addr) (k : Nat) : Value := .pointer (A.map fun a => ⟨a.block, a.off + k, none⟩)
/-- A slice of the call's own: its elements' cells, and room behind them. -/
def rowS (A : Option Addr) (n cap sz : Nat) (vs : List Value) : SProp := fun h =>
  vs.length = n * sz ∧ n ≤ cap ∧ cap ≤ maxLen ∧ ((A = none ∧ cap = 0) ∨ ∃ b o spare, A = some ⟨b, o, none⟩ ∧ spare.length = (cap - n) * sz ∧ pts b o (vs ++ spare) h)
theorem rowS_nil (sz : Nat) (h : Hp) : rowS none 0 0 sz [] h := ⟨by simp, by omega, by unfold maxLen; omega, .inl ⟨rfl, rfl⟩⟩
theorem ent_nil (sz : Nat) {L : List SProp} : Ent L (rowS none 0 0 sz [] :: L) := fun h s => ⟨fun _ _ => none, h, fun _ _ => .inl rfl, by funext x y; rfl, rowS_nil sz _, s⟩
theorem rowS_of_pts {b o n sz : Nat} {vs : List Value} (hl : vs.length = n * sz) (hn : n ≤ maxLen) (h : Hp) (p : pts b o vs h) : rowS (some ⟨b, o, none⟩) n n sz vs h :=
  ⟨hl, Nat.le_refl _, hn, .inr ⟨b, o, [], rfl, by simp, by simpa using p⟩⟩

section
variable {r : Option Nat} {P : Program} {Q : Exit → Act → World → Prop} {n B : Nat} {W : World} {R R' R0 : RList} {L L' M : List SProp} {v u : Value} {x y z : Operand} {o : Oper} {ops : Array Oper}
  {d : Option Tmp} {ty : TypeId} {ps : String} {af : Array Edge} {g : Option (Nat × Bool)} {T T' : TypeId}
theorem sat_rowS {A : Option Addr} {m cap sz : Nat} {vs : List Value} {w : World} (s : Sat B w L) (h : rowS A m cap sz vs ∈ L) :
    vs.length = m * sz ∧ m ≤ cap ∧ cap ≤ maxLen ∧ ((A = none ∧ cap = 0) ∨ ∃ b o, A = some ⟨b, o, none⟩ ∧ ∀ i v, vs[i]? = some v → w.cell? ⟨b, o + i, none⟩ = some v) := by
  obtain ⟨L', hp⟩ := Pick.of_mem h
  obtain ⟨h, H, k1, k2, a, e, ⟨h1, h2, h3, h4⟩, hL⟩ := s.perm hp.perm
  refine ⟨h1, h2, h3, h4.imp id ?_⟩
  rintro ⟨b, o, spare, rfl, _, hp⟩
  refine ⟨b, o, rfl, fun i v hi => ?_⟩
  have hv : (vs ++ spare)[i]? = some v := by
    rw [List.getElem?_append_left (by
      rcases Nat.lt_or_ge i vs.length with h1 | h1
      · exact h1
      · rw [List.getElem?_eq_none h1] at hi; cases hi)]
    exact hi
  exact (H b (o + i) (.cell v) (by rw [e]; unfold join; rw [hp i v hv])).2.1
theorem idx_run {k : IntKind} {a : Act} {w : World} {b p len cap i sz : Nat} {j : Int} (ex : a.eval x = .slice (some ⟨b, p, none⟩) len cap) (ey : a.eval y = .int k j) (hj : j = (i : Int)) (hlt : i < len) (hs : elemSize P T = some sz) :
    (execOp a.eval ⟨d, .indexAddr T x y, ty, ps, af, g⟩).run P w = .ok (.value (idx (some ⟨b, p, none⟩) (i * sz))) w := by
  subst hj
  unfold elemSize at hs
  split at hs <;> try contradiction
  rename_i E hU
  cases hi : P.info? E with
  | none => rw [hi] at hs; cases hs
  | some inf =>
    rw [hi] at hs
    obtain rfl := Option.some.inj hs
    have h1 : (0 : Int) ≤ (i : Int) ∧ (i : Int) < (len : Int) := by omega
    simp only [execOp, ex, ey]
    simp [Instr.indexAt, asIntOf, und_run hU, sizeOf, info_run hi, h1, hlt, addr_plus, idx]
theorem oq_indexS {k : IntKind} {A : Option Addr} {len cap m c i sz sz' : Nat} {j : Int} {vs : List Value} (hx : EvalR R x (.slice A len cap)) (hy : EvalR R y (.int k j)) (hL : rowS A m c sz' vs ∈ L) (hm : 0 < m) (hj : j = (i : Int)) (hlt : i < len) (hs : elemSize P T = some sz) {r : Nat} (hr : i * sz = r) :
    OQ P n B W ⟨d, .indexAddr T x y, ty, ps, af, g⟩ R L (idx A r) := oq_run fun a w s => by
  subst hr
  obtain ⟨_, h2, _, h4⟩ := sat_rowS s.sat hL
  rcases h4 with ⟨_, h4⟩ | ⟨b, o, rfl, _⟩
  · omega
  · exact idx_run (hx.eval s.regs) (hy.eval s.regs) hj hlt hs
theorem oq_loadS {A : Option Addr} {m c sz i : Nat} {vs : List Value} (hx : EvalR R x (idx A i)) (hL : rowS A m c sz vs ∈ L) (hi : vs[i]? = some v) (hT : aggSize P T = some none) :
    OQ P n B W ⟨d, .load T x, ty, ps, af, g⟩ R L v := oq_run fun a w s => by
  obtain ⟨h1, h2, h3, h4⟩ := sat_rowS s.sat hL
  rcases h4 with ⟨_, h4⟩ | ⟨b, o, rfl, h4⟩
  · have : i < vs.length := (List.getElem?_eq_some_iff.1 hi).1
    have h0 : m = 0 := by omega
    rw [h1, h0] at this; omega
  · simp only [execOp, hx.eval s.regs, idx, Option.map_some]
    rw [run_bind_ok (load_run (us := [v]) hT rfl (fun j u hj => by
      cases j with
      | zero => simp at hj; subst hj; exact h4 i v hi
      | succ j => simp at hj) rfl)]
    rfl
/-- A slice that came in. -/
theorem op_indexW {α : Type} {enc : α → List Value} {k : IntKind} {A : Option Addr} {len cap i sz sz' : Nat} {j : Int} {xs : List α} (hx : EvalR R x (.slice A len cap)) (hy : EvalR R y (.int k j)) (hS : Sl enc sz' W B A xs) (hj : j = (i : Int)) (hi : i < xs.length) (hlt : i < len) (hs : elemSize P T = some sz) {r : Nat} (hr : i * sz = r) :
    OP P n ⟨d, .indexAddr T x y, ty, ps, af, g⟩ R (idx A r) := fun a w s => by
  subst hr
  obtain ⟨b, o, rfl, _, _⟩ := hS.at_ hi
  exact idx_run (hx.eval s) (hy.eval s) hj hlt hs
theorem oq_loadW1 {α : Type} {enc : α → List Value} {A : Option Addr} {sz i j r : Nat} {xs : List α} {e : α} (hx : EvalR R x (idx A r)) (hS : Sl enc sz W B A xs) (hi : xs[i]? = some e) (hj : (enc e)[j]? = some v) (hr : i * sz + j = r) (hT : aggSize P T = some none) :
    OQ P n B W ⟨d, .load T x, ty, ps, af, g⟩ R L v := oq_run fun a w s => by
  subst hr
  have hlt := (List.getElem?_eq_some_iff.1 hi).1
  obtain ⟨b, o, rfl, hb, hc⟩ := hS.at_ hlt
  have he : xs[i] = e := (List.getElem?_eq_some_iff.1 hi).2
  have h1 := hc i hlt j v (by rw [he]; exact hj)
  rw [Nat.add_assoc] at h1
  have h2 := (s.below.cell (p := ⟨b, o + (i * sz + j), none⟩) hb).trans h1
  simp only [execOp, hx.eval s.regs, idx, Option.map_some]
  rw [run_bind_ok (load_run (us := [v]) hT rfl (fun j u hj => by
    cases j with
    | zero => simp at hj; subst hj; exact h2
    | succ j => simp at hj) rfl)]
  rfl
theorem oq_loadWS {α : Type} {enc : α → List Value} {A : Option Addr} {sz i r k : Nat} {xs : List α} {e : α} (hx : EvalR R x (idx A r)) (hS : Sl enc sz W B A xs) (hi : xs[i]? = some e) (hr : i * sz = r) (hT : aggSize P T = some (some k)) (hk : (enc e).length = k) :
    OQ P n B W ⟨d, .load T x, ty, ps, af, g⟩ R L (.agg (enc e).toArray) := oq_run fun a w s => by
  subst hr
  have hlt := (List.getElem?_eq_some_iff.1 hi).1
  obtain ⟨b, o, rfl, hb, hc⟩ := hS.at_ hlt
  have he : xs[i] = e := (List.getElem?_eq_some_iff.1 hi).2
  simp only [execOp, hx.eval s.regs, idx, Option.map_some]
  rw [run_bind_ok (load_run (us := enc e) hT hk (fun j u hj => (s.below.cell (p := ⟨b, o + i * sz + j, none⟩) hb).trans (hc i hlt j u (by rw [he]; exact hj))) rfl)]
  rfl
theorem op_fieldW {α : Type} {enc : α → List Value} {A : Option Addr} {sz r k r' : Nat} {f : Nat} {xs : List α} (hx : EvalR R x (idx A r)) (hS : Sl enc sz W B A xs) (hn : 0 < xs.length) (hf : fieldOff P T f = some k) (ho : r + k = r') :
    OP P n ⟨d, .fieldAddr T x f, ty, ps, af, g⟩ R (idx A r') := by
  obtain ⟨b, o, rfl, _, _⟩ := hS.at_ hn
  have := op_field (P := P) (n := n) (d := d) (ty := ty) (ps := ps) (af := af) (g := g) (o' := o + r') (show EvalR R x (.pointer (some ⟨b, o + r, none⟩)) from hx) hf (by omega)
  exact this

/-! ### Making -/
def infoB (P : Program) (E : TypeId) (z : Value) (sz by_ : Nat) : Prop := ∃ i, P.info? E = some i ∧ i.zero = some z ∧ i.size = sz ∧ i.bytes = by_
theorem infoB_of {E : TypeId} {z : Value} {sz by_ : Nat} (h : (P.info? E).map (fun i => (i.zero, i.size, i.bytes)) = some (some z, sz, by_)) : infoB P E z sz by_ := by
  cases hi : P.info? E with
  | none => rw [hi] at h; cases h
  | some i =>
    rw [hi] at h
    simp only [Option.map_some, Option.some.injEq, Prod.mk.injEq] at h
    exact ⟨i, hi, h.1, h.2.1, h.2.2⟩
theorem made_one (v : Value) (n : Nat) : (madeCells #[v] n).toList = List.replicate n v := by
  apply List.ext_getElem
  · simp [madeCells]
  · intro i h1 h2
    simp [madeCells, Nat.mod_one]
theorem ot_make {E : TypeId} {k k' : IntKind} {a : Int} {z : Value} {by_ : Nat} (hx : EvalR R x (.int k a)) (hy : EvalR R y (.int k' a)) (hT : P.underlying T = some (.slice E)) (hI : infoB P E z 1 by_) (hz : z.cells = #[z]) (h0 : 0 ≤ a) (h1 : a ≤ 1099511627776) (hby : by_ ≤ 128) :
    OT P n B W ⟨d, .makeSlice T x y, ty, ps, af, g⟩ R L (X := Nat) (fun b => .slice (some ⟨b, 0, none⟩) a.toNat a.toNat) (fun b => pts b 0 (List.replicate a.toNat z) :: L) := fun ac w s => by
  obtain ⟨i, hi, hz1, hz2, hz3⟩ := hI
  have hr := run_make (P := P) w T E i z hT hi hz1 k k' a a h0 (Int.le_refl _) (by
    rw [hz3]
    have : (by_ : Int) * a ≤ 128 * a := Int.mul_le_mul_of_nonneg_right (by omega) h0
    omega) (by omega)
  have : (execOp ac.eval ⟨d, .makeSlice T x y, ty, ps, af, g⟩).run P w = .ok (.value (.slice (some ⟨w.heap.size, 0, none⟩) a.toNat a.toNat)) (w.alloc (.cells (madeCells z.cells (a.toNat * i.size)) E)) := by
    simp only [execOp, hx.eval s.regs, hy.eval s.regs]
    rw [run_bind_ok hr]; rfl
  rw [this]
  refine ⟨w.heap.size, rfl, below_fresh s.below s.lo _, by simpa using Nat.le_succ_of_le s.lo, ?_⟩
  have e : (madeCells z.cells (a.toNat * i.size)).toList = List.replicate a.toNat z := by rw [hz2, hz, Nat.mul_one, made_one]
  show Sat B _ (pts w.heap.size 0 (List.replicate a.toNat z) :: L)
  rw [← e]
  exact s.sat.fresh s.lo
theorem ot_buildSlice {m : Nat} {pl : List (Nat × Operand)} {vs : List (Nat × Value)} {us : List Value} (hp : EvalPs R pl vs) (hr : ∀ w, (Instr.buildSlice T m vs.toArray).run P w = .ok (.slice (some ⟨w.heap.size, 0, none⟩) m m) (w.alloc (.cells us.toArray T'))) :
    OT P n B W ⟨d, .buildSlice T m pl.toArray, ty, ps, af, g⟩ R L (X := Nat) (fun b => .slice (some ⟨b, 0, none⟩) m m) (fun b => pts b 0 us :: L) := fun a w s => by
  have e := hp.eval s.regs
  have : (execOp a.eval ⟨d, .buildSlice T m pl.toArray, ty, ps, af, g⟩).run P w = .ok (.value (.slice (some ⟨w.heap.size, 0, none⟩) m m)) (w.alloc (.cells us.toArray T')) := by
    simp only [execOp]
    rw [List.map_toArray, e]
    rw [run_bind_ok (hr w)]; rfl
  rw [this]
  refine ⟨w.heap.size, rfl, below_fresh s.below s.lo _, by simpa using Nat.le_succ_of_le s.lo, ?_⟩
  simpa using s.sat.fresh (cs := us.toArray) (T := T') s.lo
theorem op_build {pl : List (Nat × Operand)} {vs : List (Nat × Value)} (hp : EvalPs R pl vs) (hr : ∀ w, (Instr.build T vs.toArray).run P w = .ok v w) : OP P n ⟨d, .build T pl.toArray, ty, ps, af, g⟩ R v := fun a w s => by
  simp only [execOp]
  rw [List.map_toArray, hp.eval s]
  rw [run_bind_ok (hr w)]; rfl

/-! ### append -/
theorem oneCell_of_scalar {us : List Value} (h : us.all scalar = true) : ∀ u ∈ us, u.cells = #[u] := fun u hu => by
  have := List.all_eq_true.1 h u hu
  cases u <;> simp [scalar] at this <;> rfl
theorem append_sat {w : World} {A : Option Addr} {m cap sz k c by_ : Nat} {vs us : List Value} {b o : Nat} {E : TypeId} {z : Value} (hT : P.underlying T = some (.slice E)) (hI : infoB P E z sz by_) (hz : z.cells.size = sz) (hsz : 0 < sz)
    (s : Sat B w (rowS A m cap sz vs :: pts b o us :: L)) (hb : Below B W w) (hl : B ≤ w.heap.size) (hu : us.length = k * sz) (ha : us.all scalar = true) (hk : 0 < k) (hlen : m + k ≤ maxLen) (hby : (m + k) * by_ ≤ 140737488355328) :
    ∃ A' cap' w', (Builtin.append_ #[T, T] ty #[.slice A m cap, .slice (some ⟨b, o, none⟩) k c]).run P w = .ok (.slice A' (m + k) cap') w' ∧ Cls B W (rowS A' (m + k) cap' sz (vs ++ us) :: pts b o us :: L) w' := by
  obtain ⟨i, hi, hz1, rfl, rfl⟩ := hI
  have hnews : ∀ j u, us[j]? = some u → w.cell? ((⟨b, o, none⟩ : Addr).add j) = some u := fun j u hj => by
    rw [addr_plus]; exact (sat_cell s (List.mem_cons_of_mem _ (List.mem_cons_self ..)) hj).2.1
  obtain ⟨r1, r2, r3, r4⟩ := sat_rowS s (List.mem_cons_self ..)
  have hgc := grownCap_ge w (m + k) cap E
  have hgm := grownCap_le_maxLen w (m + k) cap E hlen
  have hul : us.length ≤ us.length := Nat.le_refl _
  have fresh : ∀ xs : List Value, xs.length = (m + k) * i.size → xs = vs ++ us → ∀ (zs : Array Value), zs.size = (grownCap w (m + k) cap E - (m + k)) * i.size →
      Cls B W (rowS (some ⟨w.heap.size, 0, none⟩) (m + k) (grownCap w (m + k) cap E) i.size (vs ++ us) :: pts b o us :: L) (w.drew.alloc (.cells (xs.toArray ++ zs) E)) := by
    intro xs hxl hx zs hzl
    have s1 : Sat B w.drew (pts b o us :: L) := (s.drop).below ((Below.refl _ _).drew)
    have s2 := s1.fresh (cs := xs.toArray ++ zs) (T := E) hl
    refine ⟨below_fresh hb.drew hl _, by simpa using Nat.le_succ_of_le hl, ?_⟩
    refine s2.imp fun h => star_head fun h hp => ?_
    refine ⟨by rw [← hx]; exact hxl, hgc, hgm, .inr ⟨w.heap.size, 0, zs.toList, rfl, by simpa using hzl, ?_⟩⟩
    have e : (xs.toArray ++ zs).toList = vs ++ us ++ zs.toList := by rw [hx]; simp
    rw [e] at hp; exact hp
  have hzc : ∀ q, (Builtin.zeroCells z.cells q).size = q * i.size := fun q => by rw [size_zeroCells, hz]
  rcases r4 with ⟨rfl, rfl⟩ | ⟨b', o', rfl, hcells⟩
  · obtain rfl : m = 0 := by omega
    have hv : vs = [] := List.length_eq_zero_iff.1 (by rw [r1]; simp)
    subst hv
    rw [Nat.zero_add] at *
    have hr := run_append_nil (P := P) w T ty E i z hT hi hz1 ⟨b, o, none⟩ k c us hu hnews hk (by unfold maxLen at hlen; omega) (by omega)
    exact ⟨_, _, _, hr, fresh us hu (by simp) _ (hzc _)⟩
  · by_cases hroom : m + k ≤ cap
    · obtain ⟨h, H, k1, k2, ap, e, ⟨_, _, _, h4⟩, hL⟩ := s
      rcases h4 with ⟨h4, _⟩ | ⟨b2, o2, spare, he, hsp, hp⟩
      · cases h4
      · obtain ⟨rfl, rfl⟩ : b' = b2 ∧ o' = o2 := by
          have := Option.some.inj he; exact ⟨congrArg Addr.block this, congrArg Addr.off this⟩
        have s' : Sat B w (pts b' o' (vs ++ spare) :: pts b o us :: L) := ⟨h, H, k1, k2, ap, e, hp, hL⟩
        have hfit : (m + k) * i.size ≤ cap * i.size := Nat.mul_le_mul_right _ hroom
        have hsp' : spare.length + m * i.size = cap * i.size := by rw [hsp, ← Nat.add_mul, Nat.sub_add_cancel r2]
        rw [Nat.add_mul] at hfit
        obtain ⟨w', hst, hc⟩ := storeCells_run (P := P) (W := W) (b := b') (o := o') (o' := o' + m * i.size) us 0 (m * i.size) (vs ++ spare) w (pts b o us :: L) (by omega) ha (by simp; omega) s' hb hl
        have hf := run_firstCells_some (P := P) w i.size k ⟨b, o, none⟩ k c us hu hnews
        refine ⟨some ⟨b', o', none⟩, cap, w', ?_, hc.1, hc.2.1, ?_⟩
        · simp [Builtin.append_, und_run hT, sizeOf, info_run hi, Builtin.lenOf, hroom, hf, addr_plus, hst]
        · refine hc.2.2.imp fun h => star_head fun h hp => ?_
          have e1 : List.take (m * i.size) (vs ++ spare) ++ us ++ List.drop (m * i.size + us.length) (vs ++ spare) = vs ++ us ++ spare.drop us.length := by
            rw [← r1, List.take_left, List.drop_append]
            simp
          rw [e1] at hp
          refine ⟨by simp [r1, hu, Nat.add_mul], hroom, r3, .inr ⟨b', o', spare.drop us.length, rfl, ?_, hp⟩⟩
          rw [List.length_drop, hu, Nat.sub_mul, Nat.add_mul]
          omega
    · have hr := run_append_grow (P := P) w T ty E i z hT hi hz1 ⟨b', o', none⟩ m cap vs r1 (fun j v hj => by rw [addr_plus]; exact hcells j v hj) ⟨b, o, none⟩ k c us hu hnews (by omega) (by unfold maxLen at hlen; omega) (growslice_fits (by omega) hby)
      refine ⟨_, _, _, hr, ?_⟩
      have := fresh (vs ++ us) (by simp [r1, hu, Nat.add_mul]) rfl _ (hzc (grownCap w (m + k) cap E - (m + k)))
      simpa using this
theorem ot_append {A : Option Addr} {m cap sz k c by_ : Nat} {vs us : List Value} {b o : Nat} {E : TypeId} {z : Value} (hx : EvalR R x (.slice A m cap)) (hy : EvalR R y (.slice (some ⟨b, o, none⟩) k c)) (hL : Picks L [rowS A m cap sz vs, pts b o us] M)
    (hT : P.underlying T = some (.slice E)) (hI : infoB P E z sz by_) (hz : z.cells.size = sz) (hsz : 0 < sz) (hu : us.length = k * sz) (ha : us.all scalar = true) (hk : 0 < k) (hlen : m + k ≤ maxLen) (hby : (m + k) * by_ ≤ 140737488355328) :
    OT P n B W ⟨d, .call ⟨.builtin .append, #[x, y], #[T, T]⟩, ty, ps, af, g⟩ R L (X := Option Addr × Nat) (fun p => .slice p.1 (m + k) p.2) (fun p => rowS p.1 (m + k) p.2 sz (vs ++ us) :: M) := fun a w s => by
  obtain ⟨A', cap', w', hr, hc⟩ := append_sat (ty := ty) (c := c) (W := W) hT hI hz hsz (s.sat.perm hL.perm) s.below s.lo hu ha hk hlen hby
  have : (execOp a.eval ⟨d, .call ⟨.builtin .append, #[x, y], #[T, T]⟩, ty, ps, af, g⟩).run P w = .ok (.value (.slice A' (m + k) cap')) w' := by
    simp only [execOp, resolve, List.map_toArray, List.map_cons, List.map_nil, hx.eval s.regs, hy.eval s.regs]
    simp only [invoke, builtin]
    simp [hr]
  rw [this]
  exact ⟨(A', cap'), rfl, hc.1, hc.2.1, hc.2.2.imp fun h => star_tail fun h => fun hh => by
    obtain ⟨_, _, ap, e, _, hM⟩ := hh
    have : star ([] ++ M) h := star_append.2 ⟨_, _, ap, e, trivial, hM⟩
    exact this⟩

/-! ### A piece of a slice -/
theorem op_slice_full {A : Option Addr} {len cap l h' sz : Nat} {lo hi : Option Operand} {E : TypeId} (hx : EvalR R x (.slice A len cap)) (hT : P.underlying T = some (.slice E)) (hsz : P.cellsOf E = sz) (hs0 : 0 < sz)
    (hlo : match lo with | some o => ∃ k, EvalR R o (.int k (l : Int)) | none => l = 0) (hhi : match hi with | some o => ∃ k, EvalR R o (.int k (h' : Int)) | none => h' = len) (h1 : l ≤ h') (h2 : h' ≤ cap) {A' : Option Addr} (hA : (if cap = l then A else A.map fun a => a.add (l * sz)) = A') :
    OP P n ⟨d, .slice T x lo hi none, ty, ps, af, g⟩ R (.slice A' (h' - l) (cap - l)) := fun a w s => by
  subst hA
  have e1 : (Instr.sliceBounds true len cap (lo.map a.eval) (hi.map a.eval) none).run P w = .ok (l, h', cap) w := by
    unfold Instr.sliceBounds
    cases hi with
    | none =>
      simp only at hhi; subst hhi
      cases lo with
      | none => simp only at hlo; subst hlo; simp
      | some o =>
        obtain ⟨k, hk⟩ := hlo
        have : (0 : Int) ≤ (l : Int) ∧ (l : Int) ≤ (h' : Int) := by omega
        simp [hk.eval s, Instr.sliceBound, asIntOf, this, h1]
    | some q =>
      obtain ⟨k, hk⟩ := hhi
      cases lo with
      | none =>
        simp only at hlo; subst hlo
        simp [hk.eval s, Instr.sliceBound, asIntOf, h2]
      | some o =>
        obtain ⟨k', hk'⟩ := hlo
        simp [hk.eval s, hk'.eval s, Instr.sliceBound, asIntOf, h2, h1]
  simp only [execOp, hx.eval s]
  have e2 : (Instr.sliceAt T (.slice A len cap) (lo.map a.eval) (hi.map a.eval) (none.map a.eval)).run P w = .ok (.slice (if cap = l then A else A.map fun a => a.add (l * sz)) (h' - l) (cap - l)) w := by
    unfold Instr.sliceAt
    rw [run_bind_ok (und_run hT)]
    simp only [Instr.slice]
    rw [run_bind_ok (und_run hT)]
    simp only [Option.map_none]
    rw [run_bind_ok e1]
    simp only
    rw [run_bind_ok (sizeOf_run' hsz hs0)]
    rfl
  rw [run_bind_ok e2]
  rfl

theorem op_slice_lh {A : Option Addr} {len cap l h' sz : Nat} {lo hi : Operand} {k k' : IntKind} {E : TypeId} (hx : EvalR R x (.slice A len cap)) (hT : P.underlying T = some (.slice E)) (hsz : P.cellsOf E = sz) (hs0 : 0 < sz)
    (hlo : EvalR R lo (.int k (l : Int))) (hhi : EvalR R hi (.int k' (h' : Int))) (h1 : l ≤ h') (h2 : h' ≤ cap) {A' : Option Addr} (hA : (if cap = l then A else A.map fun a => a.add (l * sz)) = A') :
    OP P n ⟨d, .slice T x (some lo) (some hi) none, ty, ps, af, g⟩ R (.slice A' (h' - l) (cap - l)) := op_slice_full (lo := some lo) (hi := some hi) hx hT hsz hs0 ⟨k, hlo⟩ ⟨k', hhi⟩ h1 h2 hA
theorem op_slice_h {A : Option Addr} {len cap h' sz : Nat} {hi : Operand} {k' : IntKind} {E : TypeId} (hx : EvalR R x (.slice A len cap)) (hT : P.underlying T = some (.slice E)) (hsz : P.cellsOf E = sz) (hs0 : 0 < sz)
    (hhi : EvalR R hi (.int k' (h' : Int))) (h2 : h' ≤ cap) : OP P n ⟨d, .slice T x none (some hi) none, ty, ps, af, g⟩ R (.slice A (h' - 0) (cap - 0)) :=
  op_slice_full (lo := none) (hi := some hi) (l := 0) hx hT hsz hs0 rfl ⟨k', hhi⟩ (Nat.zero_le _) h2 (by
    split
    · rfl
    · cases A with
      | none => rfl
      | some a => simp [Addr.add])
theorem op_slice_l {A : Option Addr} {len cap l sz : Nat} {lo : Operand} {k : IntKind} {E : TypeId} (hx : EvalR R x (.slice A len cap)) (hT : P.underlying T = some (.slice E)) (hsz : P.cellsOf E = sz) (hs0 : 0 < sz)
    (hlo : EvalR R lo (.int k (l : Int))) (h1 : l ≤ len) (h2 : len ≤ cap) {A' : Option Addr} (hA : (if cap = l then A else A.map fun a => a.add (l * sz)) = A') :
    OP P n ⟨d, .slice T x (some lo) none none, ty, ps, af, g⟩ R (.slice A' (len - l) (cap - l)) := op_slice_full (lo := some lo) (hi := none) hx hT hsz hs0 ⟨k, hlo⟩ rfl h1 h2 hA
/-! ### Loops with three unknowns: a number, an address, a room -/
def Again3 (n B : Nat) (W : World) {X Y Z : Type} (m : X → Y → Z → Nat) (Inv : X → Y → Z → Prop) (Rx : X → Y → Z → RList) (Lx : X → Y → Z → List SProp) (k : Nat) (a : Act) (w : World) : Prop :=
  ∃ x y z, Inv x y z ∧ m x y z < k ∧ Sta n B W (Rx x y z) (Lx x y z) a w
theorem ct_loop3 {X Y Z : Type} (m : X → Y → Z → Nat) (Inv : X → Y → Z → Prop) (Rx : X → Y → Z → RList) (Lx : X → Y → Z → List SProp) (x0 : X) (y0 : Y) (z0 : Z) (h0 : Inv x0 y0 z0) (hR : Less R (Rx x0 y0 z0)) (hL : Ent L (Lx x0 y0 z0)) {c : Code}
    (body : ∀ x y z, Inv x y z → CT r P (Exit.then (Again3 n B W m Inv Rx Lx (m x y z)) Q) n B W c (Rx x y z) (Lx x y z)) : CT r P Q n B W (.loop c) R L := fun a w s => by
  refine wpIn_loop_ghost (fun k a w => ∃ x y z, Inv x y z ∧ m x y z = k ∧ Sta n B W (Rx x y z) (Lx x y z) a w) (m x0 y0 z0) ⟨x0, y0, z0, h0, rfl, hR.regs s.regs, s.below, s.lo, hL.sat s.sat⟩ ?_
  rintro k a w ⟨x, y, z, hi, rfl, hs⟩
  refine wpIn_mono (body x y z hi a w hs) ?_
  intro e a' w' hq
  cases e with
  | normal =>
    obtain ⟨x', y', z', h1, h2, h3⟩ := hq
    exact ⟨m x' y' z', h2, x', y', z', h1, rfl, h3⟩
  | exit id => exact hq
  | goto l => exact hq
  | ret => exact hq
  | panic ch => exact hq
  | outgrown => exact hq
theorem et_again3 {X Y Z : Type} {m : X → Y → Z → Nat} {Inv : X → Y → Z → Prop} {Rx : X → Y → Z → RList} {Lx : X → Y → Z → List SProp} {k : Nat} (x' : X) (y' : Y) (z' : Z) (h1 : Inv x' y' z') (h2 : m x' y' z' < k) (hR : Less R (Rx x' y' z')) (hL : Ent L (Lx x' y' z')) :
    ET (Exit.then (Again3 n B W m Inv Rx Lx k) Q) n B W .normal R L := fun _ _ s => ⟨x', y', z', h1, h2, hR.regs s.regs, s.below, s.lo, hL.sat s.sat⟩
/-! ### Rows of numbers -/
def gi (xs : List Int) (i : Nat) : Int := xs.getD i 0
theorem gi_get {xs : List Int} {i : Nat} (h : i < xs.length) : xs[i]? = some (gi xs i) := by simp [gi, h]
theorem gi_map {k : IntKind} {xs : List Int} {i : Nat} (h : i < xs.length) : (xs.map (Value.int k))[i]? = some (.int k (gi xs i)) := by simp [gi, h]
theorem all_ints {k : IntKind} {xs : List Int} : (xs.map (Value.int k)).all scalar = true := by simp [List.all_eq_true, scalar]
theorem ent_snoc {A : Option Addr} {m c : Nat} {k : IntKind} {xs : List Int} {e : Int} : Ent (rowS A m c 1 (xs.map (Value.int k) ++ [.int k e]) :: L) (rowS A m c 1 ((xs ++ [e]).map (Value.int k)) :: L) := Ent.eq (by simp)
/-- A row that has come to its end lies there for good. -/
theorem rowS_keep {w : World} {A : Option Addr} {m c : Nat} {xs : List Int} (s : Sat B w (rowS A m c 1 (xs.map (Value.int .i64)) :: L)) : True := trivial
/-- Ways out of a function that hands back what it owns. -/
theorem et_fn {fn : Func} {rs : List ResultVar} {vs : List Value} {X : Type} {v : X → Value} {L' : X → List SProp} (x : X) (hfn : fn.results.toList = rs) (h : ResR P R L rs vs) (hv : tupled vs = v x) {F : SProp} (hL : Ent L (L' x ++ [F])) :
    ET (bodyPost P fn fun e w' => ∃ x, e = .returned (v x) ∧ Cls B W (L' x ++ [F]) w') n B W .ret R L := fun a w s =>
  bodyPost_ret (h.run s hfn) s.regs.defers ⟨x, by rw [hv], s.below, s.lo, hL.sat s.sat⟩
theorem et_fn_end {fn : Func} {rs : List ResultVar} {vs : List Value} {X : Type} {v : X → Value} {L' : X → List SProp} (x : X) (hfn : fn.results.toList = rs) (h : ResR P R L rs vs) (hv : tupled vs = v x) {F : SProp} (hL : Ent L (L' x ++ [F])) :
    ET (bodyPost P fn fun e w' => ∃ x, e = .returned (v x) ∧ Cls B W (L' x ++ [F]) w') n B W .normal R L := fun a w s =>
  ⟨s.regs.defers, _, h.run s hfn, x, by rw [hv], s.below, s.lo, hL.sat s.sat⟩
end
end Go.Proofs.Ytkfkiaieeiodnaa
