/- Rows that are written; what is owned seen as what came in; pieces. No program occurs here. -/
import Derived.Test.YtkfkiaieeiodnaaSl7
namespace Go.Proofs.Ytkfkiaieeiodnaa
open Go Go.RowKit

section
variable {r : Option Nat} {P : Program} {Q : Exit → Act → World → Prop} {n B : Nat} {W : World} {R R' R0 : RList} {L L' M : List SProp} {v u : Value} {x y z : Operand} {o : Oper} {ops : Array Oper}
  {d : Option Tmp} {ty : TypeId} {ps : String} {af : Array Edge} {g : Option (Nat × Bool)} {T T' : TypeId}
theorem ot_storeS {A : Option Addr} {m c sz i : Nat} {vs : List Value} (hx : EvalR R x (idx A i)) (hy : EvalR R y v) (hL : Turn L (rowS A m c sz vs) (rowS A m c sz (vs.set i v)) L') (hi : i < vs.length) (hT : P.cellsOf T = 1) (hv : scalar v = true) :
    OT P n B W ⟨none, .store T x y, ty, ps, af, g⟩ R L (X := Unit) (fun _ => undef) (fun _ => L') := fun a w s => by
  obtain ⟨m', p1, p2⟩ := hL.perm
  obtain ⟨h, H, k1, k2, ap, e, ⟨h1, h2, h3, h4⟩, hM⟩ := s.sat.perm p1
  rcases h4 with ⟨_, h4⟩ | ⟨b, o, spare, rfl, hsp, hp⟩
  · exfalso
    have h0 : m = 0 := by omega
    rw [h1, h0] at hi; omega
  · have s' : Sat B w (pts b o (vs ++ spare) :: m') := ⟨h, H, k1, k2, ap, e, hp, hM⟩
    have hcells : v.cells.toList = [v] := by cases v <;> simp [scalar] at hv <;> rfl
    obtain ⟨w', hr, c1, c2, c3⟩ := storeVar_run (P := P) (T := T) (v := v) (W := W) (o' := o + i) (i := i) (k := 1) (us := [v]) s' s.below s.lo rfl hT rfl (by omega) hcells (by simp [hv]) (by simp; omega)
    have : (execOp a.eval ⟨none, .store T x y, ty, ps, af, g⟩).run P w = .ok .skip w' := by
      simp only [execOp, hx.eval s.regs, hy.eval s.regs, Instr.storeAt, idx, Option.map_some, Instr.sureAddr]
      rw [run_bind_ok (a := ()) (w' := w') (by rw [run_bind_ok (a := (⟨b, o + i, none⟩ : Addr)) (w' := w) rfl]; exact hr)]
      rfl
    rw [this]
    refine ⟨(), rfl, c1, c2, ?_⟩
    refine Sat.perm ?_ p2.symm
    refine c3.imp fun h => star_head fun h hq => ?_
    have e1 : List.take i (vs ++ spare) ++ [v] ++ List.drop (i + 1) (vs ++ spare) = vs.set i v ++ spare := by
      rw [List.take_append_of_le_length (by omega), List.drop_append_of_le_length (by omega), List.set_eq_take_append_cons_drop]
      simp [hi]
    rw [e1] at hq
    exact ⟨by simpa using h1, h2, h3, .inr ⟨b, o, spare, rfl, hsp, hq⟩⟩
/-- A contract in the present world is a contract. -/
theorem pure_rekeep {f : FuncId} {args : Array Value} (h : ∀ w, Cls B W L w → Pure P f args w.heap.size w [] v) : Pure P f args B W L v := fun w hw =>
  (h w hw w ⟨Below.refl _ _, Nat.le_refl _, Sat.nil _ _⟩).mono fun _ _ ⟨he, hb⟩ => ⟨he, hw.1.trans (hb.1.mono hw.2.1), Nat.le_trans hw.2.1 hb.1.size, hw.2.2.below hb.1⟩
theorem fn_rekeep {f : FuncId} {args : Array Value} {X : Type} {v : X → Value} {N : X → List SProp} (h : ∀ w, Below B W w → B ≤ w.heap.size → Fn_ P f args w.heap.size w [] v N) : Fn_ P f args B W [] v N := fun F w hw =>
  (h w hw.1 hw.2.1 (fun _ => True) w ⟨Below.refl _ _, Nat.le_refl _, ⟨fun _ _ => none, (fun _ _ _ (e : none = some _) => by cases e), fun _ _ => none, fun _ _ => none, fun _ _ => .inl rfl, rfl, trivial, trivial⟩⟩).mono fun e w' ⟨x, he, hb⟩ => by
    refine ⟨x, he, hw.1.trans (hb.1.mono hw.2.1), Nat.le_trans hw.2.1 hb.1.size, ?_⟩
    obtain ⟨k1, H1, hs1⟩ := hb.2.2
    obtain ⟨k2, H2, hs2⟩ := hw.2.2
    obtain ⟨k3, k4, ap, e1, h3, _⟩ := star_append.1 hs1
    have H3 : ∀ b o y, k3 b o = some y → k1 b o = some y := fun b o y hy => by rw [e1]; unfold join; rw [hy]
    have hap : apart k3 k2 := fun b o => by
      cases e3 : k3 b o with
      | none => exact .inl rfl
      | some y =>
        right
        cases e4 : k2 b o with
        | none => rfl
        | some z =>
          have a1 := (H1 b o y (H3 b o y e3)).1
          have a2 := (H2 b o z e4).2.lt
          omega
    refine ⟨join k3 k2, fun b o y hy => ?_, star_append.2 ⟨k3, k2, hap, rfl, h3, hs2⟩⟩
    unfold join at hy
    cases e3 : k3 b o with
    | some z =>
      rw [e3] at hy
      obtain rfl := Option.some.inj hy
      have a1 := H1 b o z (H3 b o z e3)
      exact ⟨Nat.le_trans hw.2.1 a1.1, a1.2⟩
    | none =>
      rw [e3] at hy
      have a2 := H2 b o y hy
      exact ⟨a2.1, a2.2.same (hb.1.block _ a2.2.lt)⟩
/-- A call whose contract is proved in the present world. -/
theorem ot_rekeep {f : FuncId} {xs : List Operand} {ts : Array TypeId} {vs : List Value} {X : Type} {v : X → Value} {N : X → List SProp} (hc : callB P f = true) (hxs : EvalRs R xs vs)
    (h : ∀ w, Cls B W L w → Fn_ P f vs.toArray w.heap.size w [] v N) : OT P n B W ⟨d, .call ⟨.value (.func f), xs.toArray, ts⟩, ty, ps, af, g⟩ R L v (fun x => N x ++ L) := fun a w s => by
  rw [op_call (fst := #[]) (cap := #[]) (EvalR.func.eval s.regs) hc (by simpa using hxs.eval s.regs)]
  show Calls P f _ w _
  have h1 := h w s.cls (fun _ => True) w ⟨Below.refl _ _, Nat.le_refl _, ⟨fun _ _ => none, (fun _ _ _ (e : none = some _) => by cases e), fun _ _ => none, fun _ _ => none, fun _ _ => .inl rfl, rfl, trivial, trivial⟩⟩
  have e : (#[] ++ vs.toArray ++ #[] : Array Value) = vs.toArray := by simp
  rw [e]
  refine h1.mono fun e w' ⟨x, he, hb⟩ => ?_
  refine ⟨x, he, s.below.trans (hb.1.mono s.lo), Nat.le_trans s.lo hb.1.size, ?_⟩
  obtain ⟨k1, H1, hs1⟩ := hb.2.2
  obtain ⟨k2, H2, hs2⟩ := s.sat
  obtain ⟨k3, k4, ap, e1, h3, _⟩ := star_append.1 hs1
  have H3 : ∀ b o y, k3 b o = some y → k1 b o = some y := fun b o y hy => by rw [e1]; unfold join; rw [hy]
  have hap : apart k3 k2 := fun b o => by
    cases e3 : k3 b o with
    | none => exact .inl rfl
    | some y =>
      right
      cases e4 : k2 b o with
      | none => rfl
      | some z =>
        have a1 := (H1 b o y (H3 b o y e3)).1
        have a2 := (H2 b o z e4).2.lt
        omega
  refine ⟨join k3 k2, fun b o y hy => ?_, star_append.2 ⟨k3, k2, hap, rfl, h3, hs2⟩⟩
  unfold join at hy
  cases e3 : k3 b o with
  | some z =>
    rw [e3] at hy
    obtain rfl := Option.some.inj hy
    have a1 := H1 b o z (H3 b o z e3)
    exact ⟨Nat.le_trans s.lo a1.1, a1.2⟩
  | none =>
    rw [e3] at hy
    have a2 := H2 b o y hy
    exact ⟨a2.1, a2.2.same (hb.1.block _ a2.2.lt)⟩
theorem rowS_sl {α : Type} {enc : α → List Value} {sz : Nat} {A : Option Addr} {m c : Nat} {xs : List α} {vs : List Value} {w : World} (h : rowS A m c sz vs ∈ L) (s : Sat B w L) (hl : xs.length = m) (hsz : 0 < sz) (hn : xs.length ≤ 9223372036854775807)
    (hv : ∀ i x, xs[i]? = some x → ∀ j u, (enc x)[j]? = some u → vs[i * sz + j]? = some u) : Sl enc sz w w.heap.size A xs := by
  obtain ⟨h1, h2, h3, h4⟩ := sat_rowS s h
  refine ⟨hn, fun hne => ?_⟩
  rcases h4 with ⟨_, h4⟩ | ⟨b, o, rfl, hc⟩
  · exfalso; have : xs.length = 0 := by omega
    exact hne (List.length_eq_zero_iff.1 this)
  · have hlt : ∀ i v, vs[i]? = some v → b < w.heap.size := fun i v hi => by
      have := hc i v hi
      rcases Nat.lt_or_ge b w.heap.size with h5 | h5
      · exact h5
      · unfold World.cell? at this; rw [Array.getElem?_eq_none h5] at this; cases this
    have hb : b < w.heap.size := by
      have hx : 0 < xs.length := List.length_pos_iff.2 hne
      cases vs with
      | nil =>
        simp only [List.length_nil] at h1
        have : 0 < m * sz := Nat.mul_pos (by omega) hsz
        omega
      | cons v0 vs => exact hlt 0 v0 rfl
    exact ⟨b, o, rfl, hb, fun i x hx j u hu => by
      have := hc _ _ (hv i x hx j u hu)
      rwa [← Nat.add_assoc] at this⟩
theorem sl_ints {k : IntKind} {enc : Int → List Value} (he : ∀ x, enc x = [.int k x]) {A : Option Addr} {m c : Nat} {xs : List Int} {w : World} (h : rowS A m c 1 (xs.map (Value.int k)) ∈ L) (s : Sat B w L) (hl : xs.length = m) (hn : xs.length ≤ 9223372036854775807) : Sl enc 1 w w.heap.size A xs :=
  rowS_sl h s hl (by omega) hn fun i x hx j u hu => by
    rw [he] at hu
    cases j with
    | zero => simp at hu; subst hu; simp [hx]
    | succ j => simp at hu
theorem sl_pts {k : IntKind} {enc : Int → List Value} (he : ∀ x, enc x = [.int k x]) {b : Nat} {xs : List Int} {w : World} (h : pts b 0 (xs.map (Value.int k)) ∈ L) (s : Sat B w L) (hn : xs.length ≤ 9223372036854775807) : Sl enc 1 w w.heap.size (some ⟨b, 0, none⟩) xs := by
  refine ⟨hn, fun hne => ?_⟩
  have hc : ∀ i x, xs[i]? = some x → w.cell? ⟨b, 0 + i, none⟩ = some (.int k x) := fun i x hx => (sat_cell s h (i := i) (by simp [hx])).2.1
  have hb : b < w.heap.size := by
    cases xs with
    | nil => exact absurd rfl hne
    | cons x xs =>
      have := hc 0 x rfl
      rcases Nat.lt_or_ge b w.heap.size with h5 | h5
      · exact h5
      · unfold World.cell? at this; rw [Array.getElem?_eq_none h5] at this; cases this
  refine ⟨b, 0, rfl, hb, fun i x hx j u hu => ?_⟩
  rw [he] at hu
  cases j with
  | zero => simp at hu; subst hu; have := hc i x hx; simpa using this
  | succ j => simp at hu
theorem op_eqnil {A : Option Addr} {len cap : Nat} {E : TypeId} (hx : EvalR R x (.slice A len cap)) (hT : P.underlying T = some (.slice E)) : OP P n ⟨d, .binOp .eql T x (.const (.slice none 0 0)) T', ty, ps, af, g⟩ R (.bool A.isNone) := fun a w s => by
  have e0 : a.eval (.const (.slice none 0 0)) = .slice none 0 0 := rfl
  simp only [execOp, hx.eval s, e0]
  have e1 : (eqGuard .eql T x (.const (.slice none 0 0)) (.slice A len cap) (.slice none 0 0)).run P w = .ok () w := by simp [eqGuard]
  have e2 : (binOp .eql T (.slice A len cap) (.slice none 0 0)).run P w = .ok (.bool A.isNone) w := by
    simp only [binOp]
    simp [run_equal_slice_nil w T E A len cap hT]
  rw [run_bind_ok (a := Value.bool A.isNone) (w' := w) (by rw [run_bind_ok e1]; exact e2)]
  rfl
/-- append of a slice whose cells are known in this world. -/
theorem append_gen {w : World} {A : Option Addr} {m cap sz k c by_ : Nat} {vs us : List Value} {b o : Nat} {E : TypeId} {z : Value} (hT : P.underlying T = some (.slice E)) (hI : infoB P E z sz by_) (hz : z.cells.size = sz) (hsz : 0 < sz)
    (hnews : ∀ j u, us[j]? = some u → w.cell? (⟨b, o + j, none⟩ : Addr) = some u)
    (s : Sat B w (rowS A m cap sz vs :: L)) (hb : Below B W w) (hl : B ≤ w.heap.size) (hu : us.length = k * sz) (ha : us.all scalar = true) (hk : 0 < k) (hlen : m + k ≤ maxLen) (hby : (m + k) * by_ ≤ 140737488355328) :
    ∃ A' cap' w', (Builtin.append_ #[T, T] ty #[.slice A m cap, .slice (some ⟨b, o, none⟩) k c]).run P w = .ok (.slice A' (m + k) cap') w' ∧ Cls B W (rowS A' (m + k) cap' sz (vs ++ us) :: L) w' := by
  obtain ⟨i, hi, hz1, rfl, rfl⟩ := hI
  have hnews' : ∀ j u, us[j]? = some u → w.cell? ((⟨b, o, none⟩ : Addr).add j) = some u := fun j u hj => by rw [addr_plus]; exact hnews j u hj
  obtain ⟨r1, r2, r3, r4⟩ := sat_rowS s (List.mem_cons_self ..)
  have hgc := grownCap_ge w (m + k) cap E
  have hgm := grownCap_le_maxLen w (m + k) cap E hlen
  have fresh : ∀ xs : List Value, xs.length = (m + k) * i.size → xs = vs ++ us → ∀ (zs : Array Value), zs.size = (grownCap w (m + k) cap E - (m + k)) * i.size →
      Cls B W (rowS (some ⟨w.heap.size, 0, none⟩) (m + k) (grownCap w (m + k) cap E) i.size (vs ++ us) :: L) (w.drew.alloc (.cells (xs.toArray ++ zs) E)) := by
    intro xs hxl hx zs hzl
    have s1 : Sat B w.drew L := (s.drop).below ((Below.refl _ _).drew)
    have s2 := s1.fresh (cs := xs.toArray ++ zs) (T := E) hl
    refine ⟨below_fresh hb.drew hl _, by simpa using Nat.le_succ_of_le hl, ?_⟩
    refine s2.imp fun h => star_head fun h hp => ?_
    refine ⟨by rw [← hx]; exact hxl, hgc, hgm, .inr ⟨w.heap.size, 0, zs.toList, rfl, by simpa using hzl, ?_⟩⟩
    have e : (xs.toArray ++ zs).toList = vs ++ us ++ zs.toList := by rw [hx]; simp
    rw [e] at hp; exact hp
  have hzc : ∀ q, (Builtin.zeroCells z.cells q).size = q * i.size := fun q => by rw [size_zeroCells, hz]
  rcases r4 with ⟨rfl, rfl⟩ | ⟨b', o', rfl, hcells⟩
  · obtain rfl : m = 0 := by omega
    have hv : vs = [] := List.length_eq_zero_iff.1 (by rw [r1]; simp)
    subst hv
    rw [Nat.zero_add] at *
    have hr := run_append_nil (P := P) w T ty E i z hT hi hz1 ⟨b, o, none⟩ k c us hu hnews' hk (by unfold maxLen at hlen; omega) (by omega)
    exact ⟨_, _, _, hr, fresh us hu (by simp) _ (hzc _)⟩
  · by_cases hroom : m + k ≤ cap
    · obtain ⟨h, H, k1, k2, ap, e, ⟨_, _, _, h4⟩, hL⟩ := s
      rcases h4 with ⟨h4, _⟩ | ⟨b2, o2, spare, he, hsp, hp⟩
      · cases h4
      · obtain ⟨rfl, rfl⟩ : b' = b2 ∧ o' = o2 := by
          have := Option.some.inj he; exact ⟨congrArg Addr.block this, congrArg Addr.off this⟩
        have s' : Sat B w (pts b' o' (vs ++ spare) :: L) := ⟨h, H, k1, k2, ap, e, hp, hL⟩
        have hfit : (m + k) * i.size ≤ cap * i.size := Nat.mul_le_mul_right _ hroom
        have hsp' : spare.length + m * i.size = cap * i.size := by rw [hsp, ← Nat.add_mul, Nat.sub_add_cancel r2]
        rw [Nat.add_mul] at hfit
        obtain ⟨w', hst, hc⟩ := storeCells_run (P := P) (W := W) (b := b') (o := o') (o' := o' + m * i.size) us 0 (m * i.size) (vs ++ spare) w L (by omega) ha (by simp; omega) s' hb hl
        have hf := run_firstCells_some (P := P) w i.size k ⟨b, o, none⟩ k c us hu hnews'
        refine ⟨some ⟨b', o', none⟩, cap, w', ?_, hc.1, hc.2.1, ?_⟩
        · simp [Builtin.append_, und_run hT, sizeOf, info_run hi, Builtin.lenOf, hroom, hf, addr_plus, hst]
        · refine hc.2.2.imp fun h => star_head fun h hp => ?_
          have e1 : List.take (m * i.size) (vs ++ spare) ++ us ++ List.drop (m * i.size + us.length) (vs ++ spare) = vs ++ us ++ spare.drop us.length := by
            rw [← r1, List.take_left, List.drop_append]
            simp
          rw [e1] at hp
          refine ⟨by simp [r1, hu, Nat.add_mul], hroom, r3, .inr ⟨b', o', spare.drop us.length, rfl, ?_, hp⟩⟩
          rw [List.length_drop, hu, Nat.sub_mul, Nat.add_mul]
          omega
    · have hr := run_append_grow (P := P) w T ty E i z hT hi hz1 ⟨b', o', none⟩ m cap vs r1 (fun j v hj => by rw [addr_plus]; exact hcells j v hj) ⟨b, o, none⟩ k c us hu hnews' (by omega) (by unfold maxLen at hlen; omega) (growslice_fits (by omega) hby)
      refine ⟨_, _, _, hr, ?_⟩
      have := fresh (vs ++ us) (by simp [r1, hu, Nat.add_mul]) rfl _ (hzc (grownCap w (m + k) cap E - (m + k)))
      simpa using this
/-- Where the cells of a slice lie. -/
def Src (B : Nat) (W : World) (L : List SProp) (A : Option Addr) (k : Nat) (us : List Value) : Prop :=
  ∀ w, Cls B W L w → k = 0 ∨ ∃ b o, A = some ⟨b, o, none⟩ ∧ ∀ j u, us[j]? = some u → w.cell? ⟨b, o + j, none⟩ = some u
theorem ot_appendG {A A2 : Option Addr} {m cap sz k c by_ : Nat} {vs us : List Value} {E : TypeId} {z : Value} (hx : EvalR R x (.slice A m cap)) (hy : EvalR R y (.slice A2 k c)) (hsrc : Src B W L A2 k us) (hL : Pick L (rowS A m cap sz vs) M)
    (hT : P.underlying T = some (.slice E)) (hI : infoB P E z sz by_) (hz : z.cells.size = sz) (hsz : 0 < sz) (hu : us.length = k * sz) (ha : us.all scalar = true) (hlen : m + k ≤ maxLen) (hby : (m + k) * by_ ≤ 140737488355328) :
    OT P n B W ⟨d, .call ⟨.builtin .append, #[x, y], #[T, T]⟩, ty, ps, af, g⟩ R L (X := Option Addr × Nat) (fun p => .slice p.1 (m + k) p.2) (fun p => rowS p.1 (m + k) p.2 sz (vs ++ us) :: M) := fun a w s => by
  have main : ∃ A' cap' w', (Builtin.append_ #[T, T] ty #[.slice A m cap, .slice A2 k c]).run P w = .ok (.slice A' (m + k) cap') w' ∧ Cls B W (rowS A' (m + k) cap' sz (vs ++ us) :: M) w' := by
    rcases Nat.eq_zero_or_pos k with hk | hk
    · subst hk
      have hu0 : us = [] := List.length_eq_zero_iff.1 (by rw [hu]; simp)
      subst hu0
      obtain ⟨r1, r2, r3, r4⟩ := sat_rowS (s.sat.perm hL.perm) (List.mem_cons_self ..)
      refine ⟨A, cap, w, ?_, s.below, s.lo, by simpa using s.sat.perm hL.perm⟩
      obtain ⟨i, hi, hz1, rfl, rfl⟩ := hI
      have h0 : (Builtin.firstCells i.size 0 (.slice A2 0 c)).run P w = .ok #[] w := by cases A2 <;> simp [Builtin.firstCells, loadCells, loadCellsFrom]
      cases A with
      | none => simp [Builtin.append_, und_run hT, sizeOf, info_run hi, Builtin.lenOf, h0, r2]
      | some a => simp [Builtin.append_, und_run hT, sizeOf, info_run hi, Builtin.lenOf, h0, r2, storeCells]
    · rcases hsrc w s.cls with h0 | ⟨b, o, rfl, hc⟩
      · omega
      · exact append_gen (ty := ty) (c := c) (W := W) (b := b) (o := o) hT hI hz hsz hc (s.sat.perm hL.perm) s.below s.lo hu ha hk hlen hby
  obtain ⟨A', cap', w', hr, hcl⟩ := main
  have : (execOp a.eval ⟨d, .call ⟨.builtin .append, #[x, y], #[T, T]⟩, ty, ps, af, g⟩).run P w = .ok (.value (.slice A' (m + k) cap')) w' := by
    simp only [execOp, resolve, List.map_toArray, List.map_cons, List.map_nil, hx.eval s.regs, hy.eval s.regs]
    simp only [invoke, builtin]
    simp [hr]
  rw [this]
  exact ⟨(A', cap'), rfl, hcl⟩
theorem src_sl {k : IntKind} {enc : Int → List Value} (he : ∀ x, enc x = [.int k x]) {A : Option Addr} {xs : List Int} {m : Nat} (h : Sl enc 1 W B A xs) (hm : xs.length = m) : Src B W L A m (xs.map (Value.int k)) := fun w hw => by
  by_cases hx : xs = []
  · left; subst hx; simpa using hm.symm
  · right
    obtain ⟨b, o, rfl, hb, hc⟩ := h.2 hx
    refine ⟨b, o, rfl, fun j u hj => ?_⟩
    rw [List.getElem?_map, Option.map_eq_some_iff] at hj
    obtain ⟨e, hj, rfl⟩ := hj
    have := hc j e hj 0 (.int k e) (by rw [he]; rfl)
    rw [Nat.mul_one, Nat.add_zero] at this
    exact (hw.1.cell (p := ⟨b, o + j, none⟩) hb).trans this
/-- A piece of a row. -/
theorem src_piece {A : Option Addr} {m c l j cap : Nat} {vs : List Value} (h : rowS A m c 1 vs ∈ L) (hl : l + j ≤ m) (hc : m ≤ cap) : Src B W L (if cap = l then A else A.map fun a => a.add (l * 1)) j ((vs.drop l).take j) := fun w hw => by
  obtain ⟨r1, r2, r3, r4⟩ := sat_rowS hw.2.2 h
  rcases Nat.eq_zero_or_pos j with e | e
  · exact .inl e
  · right
    rcases r4 with ⟨_, r4⟩ | ⟨b, o, rfl, r4⟩
    · omega
    · rw [if_neg (by omega)]
      refine ⟨b, o + l, by simp [addr_plus], fun q u hq => ?_⟩
      have hqj : q < j := by
        have := (List.getElem?_eq_some_iff.1 hq).1; simp at this; omega
      rw [List.getElem?_take_of_lt hqj, List.getElem?_drop] at hq
      rw [Nat.add_assoc]
      exact r4 _ _ hq
/-- A piece of what came in. -/
theorem sl_piece {α : Type} {enc : α → List Value} {sz : Nat} {A : Option Addr} {cap l m : Nat} {xs : List α} (h : Sl enc sz W B A xs) (hc : l + m ≤ xs.length) (hlt : l < cap ∨ m = 0) : Sl enc sz W B (if cap = l then A else A.map fun a => a.add (l * sz)) ((xs.drop l).take m) := by
  have hlen := h.1
  refine ⟨by simp; omega, fun hne => ?_⟩
  have hm : 0 < m := by
    rcases Nat.eq_zero_or_pos m with e | e
    · subst e; simp at hne
    · exact e
  obtain ⟨b, o, rfl, hb, hcell⟩ := h.2 (fun e => by subst e; simp at hc; omega)
  rw [if_neg (by omega)]
  refine ⟨b, o + l * sz, by simp [addr_plus], hb, fun i x hx j u hu => ?_⟩
  have hi : i < m := by
    have := (List.getElem?_eq_some_iff.1 hx).1
    simp at this; omega
  have hx' : xs[l + i]? = some x := by
    rw [List.getElem?_take_of_lt hi, List.getElem?_drop] at hx; exact hx
  have := hcell (l + i) x hx' j u hu
  rw [Nat.add_mul] at this
  rw [← this]; congr 2; omega
end
end Go.Proofs.Ytkfkiaieeiodnaa
