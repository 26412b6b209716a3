/- Rows that are written; what is owned seen as what came in; pieces. No program occurs here. Regions that draw their order, operation by operation: one that looks at no memory may be taken first; one that alone may come up; a group that only reads. No program occurs here. Objects that are owned; a range over a function whose rounds are told what lies at their argument. No program occurs here. What a call has made and hands back, held to be read: no program occurs here. What is held to be read by many; rows of things that hold a list of numbers; entailments in the world. No program occurs here. -/
import Derived.Test.YtpbkelpokpglaaaGreatKh
import Derived.RangeFuncFrom
import Derived.RangeFuncLeaves
import Derived.RangeFuncBound
import Derived.Test.YtpbkelpokpglaaaGreatReg
set_option linter.all false
namespace Go.Proofs.YtpbkelpokpglaaaGreat
section
open Go Go.RowKit
section
variable {r : Option Nat} {P : Program} {Q : Exit → Act → World → Prop} {n B : Nat} {W : World} {R R' R0 : RList} {L L' M : List SProp} {v u : Value} {x y z : Operand} {o : Oper} {ops : Array Oper}
  {d : Option Tmp} {ty : TypeId} {ps : String} {af : Array Edge} {g : Option (Nat × Bool)} {T T' : TypeId}
theorem ot_storeS {A : Option Addr} {m c sz i : Nat} {vs : List Value} (hx : EvalR R x (idx A i)) (hy : EvalR R y v) (hL : Turn L (rowS A m c sz vs) (rowS A m c sz (vs.set i v)) L') (hi : i < vs.length) (hT : P.cellsOf T = 1) (hv : scalar v = true) :
    OT P n B W ⟨none, .store T x y, ty, ps, af, g⟩ R L (X := Unit) (fun _ => undef) (fun _ => L') := fun a w s => by
  obtain ⟨m', p1, p2⟩ := hL.perm
  obtain ⟨h, H, k1, k2, ap, e, ⟨h1, h2, h3, h4⟩, hM⟩ := s.sat.perm p1
  rcases h4 with ⟨_, h4⟩ | ⟨b, o, spare, rfl, hsp, hp⟩
  · exfalso
    have h0 : m = 0 := by omega
    rw [h1, h0] at hi; omega
  · have s' : Sat B w (pts b o (vs ++ spare) :: m') := ⟨h, H, k1, k2, ap, e, hp, hM⟩
    have hcells : v.cells.toList = [v] := by cases v <;> simp [scalar] at hv <;> rfl
    obtain ⟨w', hr, c1, c2, c3⟩ := storeVar_run (P := P) (T := T) (v := v) (W := W) (o' := o + i) (i := i) (k := 1) (us := [v]) s' s.below s.lo rfl hT rfl (by omega) hcells (by simp [hv]) (by simp; omega)
    have : (execOp a.eval ⟨none, .store T x y, ty, ps, af, g⟩).run P w = .ok .skip w' := by
      simp only [execOp, hx.eval s.regs, hy.eval s.regs, Instr.storeAt, idx, Option.map_some, Instr.sureAddr]
      rw [run_bind_ok (a := ()) (w' := w') (by rw [run_bind_ok (a := (⟨b, o + i, none⟩ : Addr)) (w' := w) rfl]; exact hr)]
      rfl
    rw [this]
    refine ⟨(), rfl, c1, c2, ?_⟩
    refine Sat.perm ?_ p2.symm
    refine c3.imp fun h => star_head fun h hq => ?_
    have e1 : List.take i (vs ++ spare) ++ [v] ++ List.drop (i + 1) (vs ++ spare) = vs.set i v ++ spare := by
      rw [List.take_append_of_le_length (by omega), List.drop_append_of_le_length (by omega), List.set_eq_take_append_cons_drop]
      simp [hi]
    rw [e1] at hq
    exact ⟨by simpa using h1, h2, h3, .inr ⟨b, o, spare, rfl, hsp, hq⟩⟩
theorem rowS_sl {α : Type} {enc : α → List Value} {sz : Nat} {A : Option Addr} {m c : Nat} {xs : List α} {vs : List Value} {w : World} (h : rowS A m c sz vs ∈ L) (s : Sat B w L) (hl : xs.length = m) (hsz : 0 < sz) (hn : xs.length ≤ 9223372036854775807)
    (hv : ∀ i x, xs[i]? = some x → ∀ j u, (enc x)[j]? = some u → vs[i * sz + j]? = some u) : Sl enc sz w w.heap.size A xs := by
  obtain ⟨h1, h2, h3, h4⟩ := sat_rowS s h
  refine ⟨hn, fun hne => ?_⟩
  rcases h4 with ⟨_, h4⟩ | ⟨b, o, rfl, hc⟩
  · exfalso; have : xs.length = 0 := by omega
    exact hne (List.length_eq_zero_iff.1 this)
  · have hlt : ∀ i v, vs[i]? = some v → b < w.heap.size := fun i v hi => by
      have := hc i v hi
      rcases Nat.lt_or_ge b w.heap.size with h5 | h5
      · exact h5
      · unfold World.cell? at this; rw [Array.getElem?_eq_none h5] at this; cases this
    have hb : b < w.heap.size := by
      have hx : 0 < xs.length := List.length_pos_iff.2 hne
      cases vs with
      | nil =>
        simp only [List.length_nil] at h1
        have : 0 < m * sz := Nat.mul_pos (by omega) hsz
        omega
      | cons v0 vs => exact hlt 0 v0 rfl
    exact ⟨b, o, rfl, hb, fun i x hx j u hu => by
      have := hc _ _ (hv i x hx j u hu)
      rwa [← Nat.add_assoc] at this⟩
/-- append of a slice whose cells are known in this world. -/
theorem append_gen {w : World} {A : Option Addr} {m cap sz k c by_ : Nat} {vs us : List Value} {b o : Nat} {E : TypeId} {z : Value} (hT : P.underlying T = some (.slice E)) (hI : infoB P E z sz by_) (hz : z.cells.size = sz) (hsz : 0 < sz)
    (hnews : ∀ j u, us[j]? = some u → w.cell? (⟨b, o + j, none⟩ : Addr) = some u)
    (s : Sat B w (rowS A m cap sz vs :: L)) (hb : Below B W w) (hl : B ≤ w.heap.size) (hu : us.length = k * sz) (ha : us.all scalar = true) (hk : 0 < k) (hlen : m + k ≤ maxLen) (hby : (m + k) * by_ ≤ 140737488355328) :
    ∃ A' cap' w', (Builtin.append_ #[T, T] ty #[.slice A m cap, .slice (some ⟨b, o, none⟩) k c]).run P w = .ok (.slice A' (m + k) cap') w' ∧ Cls B W (rowS A' (m + k) cap' sz (vs ++ us) :: L) w' := by
  obtain ⟨i, hi, hz1, rfl, rfl⟩ := hI
  have hnews' : ∀ j u, us[j]? = some u → w.cell? ((⟨b, o, none⟩ : Addr).add j) = some u := fun j u hj => by rw [addr_plus]; exact hnews j u hj
  obtain ⟨r1, r2, r3, r4⟩ := sat_rowS s (List.mem_cons_self ..)
  have hgc := grownCap_ge w (m + k) cap E
  have hgm := grownCap_le_maxLen w (m + k) cap E hlen
  have fresh : ∀ xs : List Value, xs.length = (m + k) * i.size → xs = vs ++ us → ∀ (zs : Array Value), zs.size = (grownCap w (m + k) cap E - (m + k)) * i.size →
      Cls B W (rowS (some ⟨w.heap.size, 0, none⟩) (m + k) (grownCap w (m + k) cap E) i.size (vs ++ us) :: L) (w.drew.alloc (.cells (xs.toArray ++ zs) E)) := by
    intro xs hxl hx zs hzl
    have s1 : Sat B w.drew L := (s.drop).below ((Below.refl _ _).drew)
    have s2 := s1.fresh (cs := xs.toArray ++ zs) (T := E) hl
    refine ⟨below_fresh hb.drew hl _, by simpa using Nat.le_succ_of_le hl, ?_⟩
    refine s2.imp fun h => star_head fun h hp => ?_
    refine ⟨by rw [← hx]; exact hxl, hgc, hgm, .inr ⟨w.heap.size, 0, zs.toList, rfl, by simpa using hzl, ?_⟩⟩
    have e : (xs.toArray ++ zs).toList = vs ++ us ++ zs.toList := by rw [hx]; simp
    rw [e] at hp; exact hp
  have hzc : ∀ q, (Builtin.zeroCells z.cells q).size = q * i.size := fun q => by rw [size_zeroCells, hz]
  rcases r4 with ⟨rfl, rfl⟩ | ⟨b', o', rfl, hcells⟩
  · obtain rfl : m = 0 := by omega
    have hv : vs = [] := List.length_eq_zero_iff.1 (by rw [r1]; simp)
    subst hv
    rw [Nat.zero_add] at *
    have hr := run_append_nil (P := P) w T ty E i z hT hi hz1 ⟨b, o, none⟩ k c us hu hnews' hk (by unfold maxLen at hlen; omega) (by omega)
    exact ⟨_, _, _, hr, fresh us hu (by simp) _ (hzc _)⟩
  · by_cases hroom : m + k ≤ cap
    · obtain ⟨h, H, k1, k2, ap, e, ⟨_, _, _, h4⟩, hL⟩ := s
      rcases h4 with ⟨h4, _⟩ | ⟨b2, o2, spare, he, hsp, hp⟩
      · cases h4
      · obtain ⟨rfl, rfl⟩ : b' = b2 ∧ o' = o2 := by
          have := Option.some.inj he; exact ⟨congrArg Addr.block this, congrArg Addr.off this⟩
        have s' : Sat B w (pts b' o' (vs ++ spare) :: L) := ⟨h, H, k1, k2, ap, e, hp, hL⟩
        have hfit : (m + k) * i.size ≤ cap * i.size := Nat.mul_le_mul_right _ hroom
        have hsp' : spare.length + m * i.size = cap * i.size := by rw [hsp, ← Nat.add_mul, Nat.sub_add_cancel r2]
        rw [Nat.add_mul] at hfit
        obtain ⟨w', hst, hc⟩ := storeCells_run (P := P) (W := W) (b := b') (o := o') (o' := o' + m * i.size) us 0 (m * i.size) (vs ++ spare) w L (by omega) ha (by simp; omega) s' hb hl
        have hf := run_firstCells_some (P := P) w i.size k ⟨b, o, none⟩ k c us hu hnews'
        refine ⟨some ⟨b', o', none⟩, cap, w', ?_, hc.1, hc.2.1, ?_⟩
        · simp [Builtin.append_, und_run hT, sizeOf, info_run hi, Builtin.lenOf, hroom, hf, addr_plus, hst]
        · refine hc.2.2.imp fun h => star_head fun h hp => ?_
          have e1 : List.take (m * i.size) (vs ++ spare) ++ us ++ List.drop (m * i.size + us.length) (vs ++ spare) = vs ++ us ++ spare.drop us.length := by
            rw [← r1, List.take_left, List.drop_append]
            simp
          rw [e1] at hp
          refine ⟨by simp [r1, hu, Nat.add_mul], hroom, r3, .inr ⟨b', o', spare.drop us.length, rfl, ?_, hp⟩⟩
          rw [List.length_drop, hu, Nat.sub_mul, Nat.add_mul]
          omega
    · have hr := run_append_grow (P := P) w T ty E i z hT hi hz1 ⟨b', o', none⟩ m cap vs r1 (fun j v hj => by rw [addr_plus]; exact hcells j v hj) ⟨b, o, none⟩ k c us hu hnews' (by omega) (by unfold maxLen at hlen; omega) (growslice_fits (by omega) hby)
      refine ⟨_, _, _, hr, ?_⟩
      have := fresh (vs ++ us) (by simp [r1, hu, Nat.add_mul]) rfl _ (hzc (grownCap w (m + k) cap E - (m + k)))
      simpa using this
/-- Where the cells of a slice lie. -/
def Src (B : Nat) (W : World) (L : List SProp) (A : Option Addr) (k : Nat) (us : List Value) : Prop :=
  ∀ w, Cls B W L w → k = 0 ∨ ∃ b o, A = some ⟨b, o, none⟩ ∧ ∀ j u, us[j]? = some u → w.cell? ⟨b, o + j, none⟩ = some u
theorem ot_appendG {A A2 : Option Addr} {m cap sz k c by_ : Nat} {vs us : List Value} {E : TypeId} {z : Value} (hx : EvalR R x (.slice A m cap)) (hy : EvalR R y (.slice A2 k c)) (hsrc : Src B W L A2 k us) (hL : Pick L (rowS A m cap sz vs) M)
    (hT : P.underlying T = some (.slice E)) (hI : infoB P E z sz by_) (hz : z.cells.size = sz) (hsz : 0 < sz) (hu : us.length = k * sz) (ha : us.all scalar = true) (hlen : m + k ≤ maxLen) (hby : (m + k) * by_ ≤ 140737488355328) :
    OT P n B W ⟨d, .call ⟨.builtin .append, #[x, y], #[T, T]⟩, ty, ps, af, g⟩ R L (X := Option Addr × Nat) (fun p => .slice p.1 (m + k) p.2) (fun p => rowS p.1 (m + k) p.2 sz (vs ++ us) :: M) := fun a w s => by
  have main : ∃ A' cap' w', (Builtin.append_ #[T, T] ty #[.slice A m cap, .slice A2 k c]).run P w = .ok (.slice A' (m + k) cap') w' ∧ Cls B W (rowS A' (m + k) cap' sz (vs ++ us) :: M) w' := by
    rcases Nat.eq_zero_or_pos k with hk | hk
    · subst hk
      have hu0 : us = [] := List.length_eq_zero_iff.1 (by rw [hu]; simp)
      subst hu0
      obtain ⟨r1, r2, r3, r4⟩ := sat_rowS (s.sat.perm hL.perm) (List.mem_cons_self ..)
      refine ⟨A, cap, w, ?_, s.below, s.lo, by simpa using s.sat.perm hL.perm⟩
      obtain ⟨i, hi, hz1, rfl, rfl⟩ := hI
      have h0 : (Builtin.firstCells i.size 0 (.slice A2 0 c)).run P w = .ok #[] w := by cases A2 <;> simp [Builtin.firstCells, loadCells, loadCellsFrom]
      cases A with
      | none => simp [Builtin.append_, und_run hT, sizeOf, info_run hi, Builtin.lenOf, h0, r2]
      | some a => simp [Builtin.append_, und_run hT, sizeOf, info_run hi, Builtin.lenOf, h0, r2, storeCells]
    · rcases hsrc w s.cls with h0 | ⟨b, o, rfl, hc⟩
      · omega
      · exact append_gen (ty := ty) (c := c) (W := W) (b := b) (o := o) hT hI hz hsz hc (s.sat.perm hL.perm) s.below s.lo hu ha hk hlen hby
  obtain ⟨A', cap', w', hr, hcl⟩ := main
  have : (execOp a.eval ⟨d, .call ⟨.builtin .append, #[x, y], #[T, T]⟩, ty, ps, af, g⟩).run P w = .ok (.value (.slice A' (m + k) cap')) w' := by
    simp only [execOp, resolve, List.map_toArray, List.map_cons, List.map_nil, hx.eval s.regs, hy.eval s.regs]
    simp only [invoke, builtin]
    simp [hr]
  rw [this]
  exact ⟨(A', cap'), rfl, hcl⟩
end
end
section
open Go Go.RowKit
def NP (Q : Exit → Act → World → Prop) : Exit → Act → World → Prop
  | .panic _, _, _ => False
  | e, a, w => Q e a w
def noCall (o : Oper) : Bool := match o.op with
  | .call c => match c.callee with
    | .builtin _ => true
    | _ => false
  | _ => true
theorem about_none {P : Program} {o : Oper} (h : noCall o = true) (w : World) (ρ : Operand → Value) : o.about P w ρ = none := by
  unfold noCall at h
  unfold Oper.about
  split at h
  · rename_i c hc
    rw [hc]
    simp only
    split at h
    · rename_i b hb
      unfold resolve
      rw [hb]
      rfl
    · cases h
  · rename_i h1
    cases ho : o.op <;> simp only
    exact absurd ho (h1 _)
def pickOps (ops : Array Oper) : List Nat → List Oper
  | [] => []
  | i :: l => (ops[i]?).getD default :: pickOps ops l
/-- h2 waits for h1, perhaps by way of others. -/
def waitsB (ops : Array Oper) : Nat → Nat → Nat → Bool
  | 0, _, _ => false
  | f + 1, j, i => Region.waitsFor .any ops j i || (List.range j).any fun k => Region.waitsFor .any ops j k && waitsB ops f k i
def closedB (ops : Array Oper) (l0 : Array Bool) : Bool :=
  (List.range ops.size).all fun j => !l0.getD j false || match ops[j]? with
    | some o => o.after.all fun e => !Region.binds .any e || l0.getD e.on false
    | none => true
def groupB (ops : Array Oper) (l0 : Array Bool) (H : List Nat) : Bool :=
  closedB ops l0 && (List.range ops.size).all fun j => H.contains j || l0.getD j false || H.all (fun h => waitsB ops 12 j h) || (List.range j).any fun k => !H.contains k && !l0.getD k false && Region.waitsFor .any ops j k
def lexG (ops : Array Oper) : List Nat → Array Bool → Bool
  | [], _ => true
  | i :: l, listed => (Region.ready .any ops listed).contains i && Region.free .any ops listed i && lexG ops l (listed.setIfInBounds i true)
def setAll (l : Array Bool) (H : List Nat) : Array Bool := H.foldl (fun l i => l.setIfInBounds i true) l
section
variable {P : Program} {ops : Array Oper} {C : World → Prop}
def ClosedL (ops : Array Oper) (listed : Array Bool) : Prop := ∀ j oj, ops[j]? = some oj → listed.getD j false = true → ∀ e ∈ oj.after, Region.binds .any e = true → listed.getD e.on false = true
theorem closedB_spec {l0 : Array Bool} (h : closedB ops l0 = true) : ClosedL ops l0 := fun j oj hj hl e he hb => by
  have h1 := List.all_eq_true.1 h j (List.mem_range.2 (Array.getElem?_eq_some_iff.1 hj).1)
  simp only [hl, Bool.not_true, Bool.false_or, hj] at h1
  have h2 := Array.all_eq_true'.1 h1 e he
  simpa [hb] using h2
structure GInv (ops : Array Oper) (H : List Nat) (l0 listed : Array Bool) : Prop where
  size : listed.size = ops.size
  closed : ClosedL ops listed
  out : ∀ j, j ∉ H → listed.getD j false = l0.getD j false
theorem ClosedL.set {listed : Array Bool} {i : Nat} (h : ClosedL ops listed) (hr : i ∈ Region.ready .any ops listed) : ClosedL ops (listed.setIfInBounds i true) := fun j oj hj hl e he hb => by
  obtain ⟨_, o, hoi, hall⟩ := mem_ready.1 hr
  by_cases hij : i = j
  · subst hij
    have : oj = o := Option.some.inj (hj.symm.trans hoi)
    subst this
    exact getD_set_true (hall e he hb)
  · rw [getD_set_ne false hij] at hl
    exact getD_set_true (h j oj hj hl e he hb)
theorem GInv.set {H : List Nat} {l0 listed : Array Bool} {i : Nat} (h : GInv ops H l0 listed) (hi : i ∈ H) (hr : i ∈ Region.ready .any ops listed) : GInv ops H l0 (listed.setIfInBounds i true) :=
  ⟨by simp [h.size], h.closed.set hr, fun j hj => by rw [getD_set_ne false (fun (e : i = j) => hj (by rw [← e]; exact hi))]; exact h.out j hj⟩
theorem waits_spec {j i : Nat} {oj : Oper} (hj : ops[j]? = some oj) (h : Region.waitsFor .any ops j i = true) : ∃ e ∈ oj.after, Region.binds .any e = true ∧ e.on = i := by
  unfold Region.waitsFor at h
  rw [hj] at h
  obtain ⟨e, he, hb⟩ := Array.any_eq_true'.1 h
  simp only [Bool.and_eq_true, beq_iff_eq] at hb
  exact ⟨e, he, hb.1, hb.2⟩
theorem waitsB_spec {listed : Array Bool} (hc : ClosedL ops listed) : ∀ (f j i : Nat), waitsB ops f j i = true → listed.getD j false = true → listed.getD i false = true
  | 0, _, _, h, _ => by cases h
  | f + 1, j, i, h, hl => by
    have step : ∀ k, Region.waitsFor .any ops j k = true → listed.getD k false = true := fun k hk => by
      cases hj : ops[j]? with
      | none => unfold Region.waitsFor at hk; rw [hj] at hk; cases hk
      | some oj =>
        obtain ⟨e, he, hb, ho⟩ := waits_spec hj hk
        rw [← ho]; exact hc j oj hj hl e he hb
    unfold waitsB at h
    simp only [Bool.or_eq_true] at h
    rcases h with h | h
    · exact step i h
    · obtain ⟨k, _, hk⟩ := List.any_eq_true.1 h
      simp only [Bool.and_eq_true] at hk
      exact waitsB_spec hc f k i hk.2 (step k hk.1)
theorem waitsB_ready {listed : Array Bool} (hc : ClosedL ops listed) {f j i : Nat} (h : waitsB ops f j i = true) (hj : j ∈ Region.ready .any ops listed) : listed.getD i false = true := by
  obtain ⟨_, oj, hoj, hall⟩ := mem_ready.1 hj
  have step : ∀ k, Region.waitsFor .any ops j k = true → listed.getD k false = true := fun k hk => by
    obtain ⟨e, he, hb, ho⟩ := waits_spec hoj hk
    rw [← ho]; exact hall e he hb
  cases f with
  | zero => cases h
  | succ f =>
    unfold waitsB at h
    simp only [Bool.or_eq_true] at h
    rcases h with h | h
    · exact step i h
    · obtain ⟨k, _, hk⟩ := List.any_eq_true.1 h
      simp only [Bool.and_eq_true] at hk
      exact waitsB_spec hc f k i hk.2 (step k hk.1)
theorem group_in {H : List Nat} {l0 listed : Array Bool} (hG : groupB ops l0 H = true) (inv : GInv ops H l0 listed) {i : Nat} (hi : i ∈ H) (hun : listed.getD i false = false) {j : Nat} (hj : j ∈ Region.ready .any ops listed) : j ∈ H := by
  obtain ⟨hju, oj, hoj, hall⟩ := mem_ready.1 hj
  refine Classical.byContradiction fun hne => ?_
  have hlt : j < ops.size := (Array.getElem?_eq_some_iff.1 hoj).1
  simp only [groupB, Bool.and_eq_true] at hG
  have h1 := List.all_eq_true.1 hG.2 j (List.mem_range.2 hlt)
  have hl0 : l0.getD j false = false := by rw [← inv.out j hne]; exact getD_both hju
  have hc : H.contains j = false := by simpa using hne
  simp only [hc, hl0, Bool.false_or, Bool.or_eq_true] at h1
  rcases h1 with h1 | h1
  · have := waitsB_ready inv.closed (List.all_eq_true.1 h1 i hi) hj
    rw [hun] at this; cases this
  · obtain ⟨k, _, hk⟩ := List.any_eq_true.1 h1
    simp only [Bool.and_eq_true, Bool.not_eq_true'] at hk
    obtain ⟨e, he, hb, ho⟩ := waits_spec hoj hk.2
    have := hall e he hb
    have hkn : k ∉ H := by simpa using hk.1.1
    rw [ho, inv.out k hkn, hk.1.2] at this; cases this
def hq (P : Program) (ops : Array Oper) (C : World → Prop) (H : List Nat) (L : Array Bool → Act → Prop) : Nat → Array Bool → Act → Prop
  | 0, listed, a => L listed a
  | f + 1, listed, a => Region.ready .any ops listed ≠ [] ∧ ∀ i ∈ Region.ready .any ops listed, i ∈ H ∧ qOp P ops C i (hq P ops C H L f (listed.setIfInBounds i true)) a
theorem anyIn_of_hq {H : List Nat} {Q : Exit → Act → World → Prop} {r : Option Nat} {q : Nat} {L : Array Bool → Act → Prop} (hL : ∀ listed a w, C w → L listed a → wpAnyIn (rf r) 0 P .any ops Q q listed a w) :
    ∀ (f : Nat) (listed : Array Bool) (a : Act) (w : World), C w → hq P ops C H L f listed a → wpAnyIn (rf r) 0 P .any ops Q (f + q) listed a w
  | 0, listed, a, w, hw, h => by rw [Nat.zero_add]; exact hL _ _ _ hw h
  | f + 1, listed, a, w, hw, h => by
    rw [show f + 1 + q = (f + q) + 1 by omega]
    exact ⟨fun h0 => absurd h0 h.1, fun i hi => wpOpIn_quiet hw (fun a' w' hw' h' => anyIn_of_hq hL f _ a' w' hw' h') (h.2 i hi).2⟩
theorem hq_first {H : List Nat} {l0 : Array Bool} {i : Nat} {oi : Oper} {v : Value} {L : Array Bool → Act → Prop} (hi : ops[i]? = some oi) (hsel : ∀ (j : Nat) (o : Oper) cs b, ops[j]? = some o → o.op ≠ .select cs b)
    (hG : groupB ops l0 H = true) (hiH : i ∈ H) (hdone : ∀ listed a, L listed a → ∀ j ∈ H, listed.getD j false = true) :
    ∀ (f : Nat) (listed : Array Bool) (a : Act), GInv ops H l0 listed →
      (∀ j oj, ops[j]? = some oj → j ≠ i → listed.getD j true = false → (∀ e ∈ oj.after, Region.binds .any e = true → e.on ≠ i) → oi.apart ops oj = true) →
      i ∈ Region.ready .any ops listed → YieldsIn P ops C oi v a →
      hq P ops C H L f (listed.setIfInBounds i true) (a.put oi.dst v) → hq P ops C H L (f + 1) listed a := by
  intro f
  induction f with
  | zero =>
    intro listed a inv _ hr hy hX
    have hun := getD_both (mem_ready.1 hr).1
    refine ⟨fun h => (by rw [h] at hr; cases hr), fun j hj => ⟨group_in hG inv hiH hun hj, ?_⟩⟩
    by_cases hji : j = i
    · subst hji; exact hy.qOp hi hX
    · have h1 := hdone _ _ hX j (group_in hG inv hiH hun hj)
      have h2 := (mem_ready.1 (ready_mono hj hji)).1
      rw [getD_both h2] at h1; cases h1
  | succ f ih =>
    intro listed a inv hfree hr hy hX
    have hun := (mem_ready.1 hr).1
    refine ⟨fun h => (by rw [h] at hr; cases hr), fun j hj => ⟨group_in hG inv hiH (getD_both hun) hj, ?_⟩⟩
    by_cases hji : j = i
    · subst hji; exact hy.qOp hi hX
    · have hjH := group_in hG inv hiH (getD_both hun) hj
      have h1 := (hX.2 j (ready_mono hj hji)).2
      obtain ⟨hjun, oj, hoj, hall⟩ := mem_ready.1 hj
      have hnot : ∀ e ∈ oj.after, Region.binds .any e = true → e.on ≠ i := fun e he hb heq => by
        have h1 := hall e he hb
        rw [heq, getD_both hun] at h1
        cases h1
      have h2 := qOp_put hoj (hfree j oj hoj hji hjun hnot) (fun cs b => hsel i oi cs b hi) (fun cs b => hsel j oj cs b hoj) hy h1
      have hfree' : ∀ k ok, ops[k]? = some ok → k ≠ i → (listed.setIfInBounds j true).getD k true = false →
          (∀ e ∈ ok.after, Region.binds .any e = true → e.on ≠ i) → oi.apart ops ok = true := fun k ok hk hki hun hno => by
        refine hfree k ok hk hki ?_ hno
        by_cases hjk : j = k
        · subst hjk; exact hjun
        · rw [getD_set_ne true hjk] at hun; exact hun
      refine qOp_mono (fun a' h3 => ih (listed.setIfInBounds j true) a' (inv.set hjH hj) hfree' (ready_mono hr (Ne.symm hji)) h3.1 ?_) h2
      rw [Array.setIfInBounds_comm _ _ hji]
      exact h3.2
theorem getD_setAll : ∀ (H : List Nat) (l : Array Bool) (j : Nat), j < l.size → (j ∈ H ∨ l.getD j false = true) → (setAll l H).getD j false = true
  | [], l, j, _, h => h.elim (fun h => by cases h) id
  | i :: H, l, j, hj, h => by
    refine getD_setAll H _ j (by simpa using hj) ?_
    by_cases e : i = j
    · subst e; right; simp [hj]
    · rcases h with h | h
      · rcases List.mem_cons.1 h with h | h
        · exact absurd h.symm e
        · exact .inl h
      · right; exact getD_set_true h
theorem hq_lex {H : List Nat} {l0 : Array Bool} {Lq : Act → Prop} (hsel : Region.noSelect ops = true) (hG : groupB ops l0 H = true) :
    ∀ (l : List Nat) (listed : Array Bool) (a : Act), (∀ i ∈ l, i ∈ H) → (∀ i ∈ H, i ∈ l ∨ listed.getD i false = true) → (∀ i ∈ H, i < ops.size) → GInv ops H l0 listed → lexG ops l listed = true →
      wpQuiet P ops C Lq (pickOps ops l) a → hq P ops C H (fun listed' a' => listed' = setAll listed l ∧ Lq a') l.length listed a
  | [], listed, a, _, _, _, _, _, h => ⟨rfl, h⟩
  | i :: l, listed, a, hl, hc, hlt, inv, hX, h => by
    simp only [lexG, Bool.and_eq_true] at hX
    obtain ⟨⟨hr, hf⟩, hX'⟩ := hX
    have hr' : i ∈ Region.ready .any ops listed := by simpa using hr
    obtain ⟨hun, o, hoi, _⟩ := mem_ready.1 hr'
    have hst : qOp P ops C i (wpQuiet P ops C Lq (pickOps ops l)) a := by
      unfold qOp; simp only [hoi]
      simp only [pickOps, hoi, Option.getD_some] at h
      exact h
    obtain ⟨v, hy, hK⟩ := yieldsIn_of_qOp hoi hst
    have hiH := hl i (List.mem_cons_self ..)
    have hIH := hq_lex hsel hG l (listed.setIfInBounds i true) _ (fun j hj => hl j (List.mem_cons_of_mem _ hj)) (fun j hj => by
      rcases hc j hj with h1 | h1
      · rcases List.mem_cons.1 h1 with h2 | h2
        · subst h2; right; simp [inv.size, hlt j hj]
        · exact .inl h2
      · exact .inr (getD_set_true h1)) hlt (inv.set hiH hr') hX' hK
    refine hq_first hoi (Region.noSelect_spec hsel) hG hiH (fun listed' a' hL j hj => ?_) l.length listed a inv (Region.free_spec hoi hf) hr' hy hIH
    rw [hL.1]
    have hjs : j < (listed.setIfInBounds i true).size := by simp [inv.size]; exact hlt j hj
    refine getD_setAll l _ j hjs ?_
    rcases hc j hj with h1 | h1
    · rcases List.mem_cons.1 h1 with h2 | h2
      · subst h2; right; simp [inv.size, hlt j hj]
      · exact .inl h2
    · exact .inr (getD_set_true h1)
end
section
variable {P : Program} {ops : Array Oper} {Q : Exit → Act → World → Prop} {n B : Nat} {W : World} {R R' : RList} {L L' : List SProp} {listed l' : Array Bool} {k i : Nat} {o : Oper} {v : Value}
def AT (P : Program) (ops : Array Oper) (Q : Exit → Act → World → Prop) (n B : Nat) (W : World) (listed : Array Bool) (k : Nat) (R : RList) (L : List SProp) : Prop :=
  ∀ a w, Sta n B W R L a w → wpAnyIn (rf none) 0 P .any ops (NP Q) k listed a w
theorem ct_any {id : Nat} {l : List Oper} (k : Nat) (hm : P.follows .mixedOrders = true) (hk : l.toArray.size = k) (h0 : Array.replicate k false = listed) (h : AT P l.toArray Q n B W listed k R L) : CT none P Q n B W (.region id l.toArray true) R L := fun a w s => by
  have h1 : (Code.region id l.toArray true).wpIn (rf none) 0 P (NP Q) a w := by
    refine wpIn_region_any hm ?_
    rw [hk, h0]
    exact h a _ ((cls_drew s.cls).st s.regs)
  exact wpIn_mono h1 fun e a' w' hq => by cases e <;> first | exact hq | exact hq.elim
theorem at_end (hr : (Region.ready .any ops listed).isEmpty = true) (h : ET Q n B W .normal R L) : AT P ops Q n B W listed 0 R L := fun a w s => ⟨by simpa using hr, h a w s⟩
def takeB (ops : Array Oper) (listed : Array Bool) (i : Nat) : Bool := Region.noSelect ops && Region.free .any ops listed i && (Region.ready .any ops listed).contains i
/-- An operation that looks at no memory is taken first. -/
theorem at_take (i : Nat) (hB : takeB ops listed i = true) (hl : listed.setIfInBounds i true = l') (hi : ops[i]? = some o) (hc : noCall o = true) (h : OP P n o R v) (hg : Wants ops R o.guard true) (hp : Put n R o.dst v R') (K : AT P ops Q n B W l' k R' L) : AT P ops Q n B W listed (k + 1) R L := fun a w s => by
  simp only [takeB, Bool.and_eq_true] at hB
  subst hl
  exact wpAnyIn_take rfl hi hB.1.1 hB.1.2 hB.2 (fun _ _ _ h => h) ⟨.inl ⟨hg.spec s.regs, fun w => h a w s.regs⟩, fun w => about_none hc w _⟩ (K _ _ (s.cls.st (hp a s.regs)))
theorem at_one {a : Act} {w : World} (hr : Region.ready .any ops listed = [i]) (hi : ops[i]? = some o) (h : wpOpIn (rf none) 0 P ops (NP Q) i (wpAnyIn (rf none) 0 P .any ops (NP Q) k (listed.setIfInBounds i true)) a w) : wpAnyIn (rf none) 0 P .any ops (NP Q) (k + 1) listed a w :=
  ⟨fun h0 => (by rw [hr] at h0; cases h0), fun j hj => by
    rw [hr] at hj
    obtain rfl : j = i := by simpa using hj
    exact h⟩
/-- The one operation that may come up. -/
theorem at_q (i : Nat) (hr : Region.ready .any ops listed = [i]) (hl : listed.setIfInBounds i true = l') (hi : ops[i]? = some o) (h : OQ P n B W o R L v) (hg : Wants ops R o.guard true) (hp : Put n R o.dst v R') (K : AT P ops Q n B W l' k R' L) : AT P ops Q n B W listed (k + 1) R L := fun a w s => by
  subst hl
  refine at_one hr hi ?_
  unfold wpOpIn
  simp only [hi]
  rw [if_pos (hg.spec s.regs)]
  exact wpIn_quiet (C := Cls B W L) (K := fun a' => Regs n a' R') s.cls (fun a' w' hw' hr => K a' w' (hw'.st hr)) ⟨v, fun w' hw' => h a w' (hw'.st s.regs), hp a s.regs⟩
theorem at_t {X : Type} {v : X → Value} {L' : X → List SProp} {R' : X → RList} (i : Nat) (hr : Region.ready .any ops listed = [i]) (hl : listed.setIfInBounds i true = l') (hi : ops[i]? = some o) (h : OT P n B W o R L v L') (hg : Wants ops R o.guard true) (hp : ∀ x, Put n R o.dst (v x) (R' x))
    (K : ∀ x, AT P ops Q n B W l' k (R' x) (L' x)) : AT P ops Q n B W listed (k + 1) R L := fun a w s => by
  subst hl
  refine at_one hr hi ?_
  unfold wpOpIn
  simp only [hi]
  rw [if_pos (hg.spec s.regs)]
  exact wpIn_turn (h a w s) fun x w' hw' => K x _ _ (hw'.st (hp x a s.regs))
def groupOk (ops : Array Oper) (listed : Array Bool) (H : List Nat) : Bool := Region.noSelect ops && groupB ops listed H && lexG ops H listed && H.all (fun i => decide (i < ops.size)) && decide (listed.size = ops.size)
/-- Operations that only read, in whatever order, ahead of all the others. -/
theorem at_group (H : List Nat) (q : Nat) {m : Nat} (hm : H.length + q = m) (hB : groupOk ops listed H = true) (hl : setAll listed H = l') (h : QT P ops n B W (fun R' => AT P ops Q n B W l' q R' L) (pickOps ops H) R L) : AT P ops Q n B W listed m R L := fun a w s => by
  subst hm
  simp only [groupOk, Bool.and_eq_true, decide_eq_true_eq, List.all_eq_true] at hB
  obtain ⟨⟨⟨⟨hsel, hG⟩, hX⟩, hlt⟩, hsz⟩ := hB
  have h1 := h (fun a' => ∀ w', Cls B W L w' → wpAnyIn (rf none) 0 P .any ops (NP Q) q l' a' w') (fun R' hK a' r w' hw' => hK a' w' (hw'.st r)) a s.regs
  have h2 := hq_lex (C := Cls B W L) hsel hG H listed a (fun _ h => h) (fun i hi => .inl hi) hlt ⟨hsz, closedB_spec (by simp only [groupB, Bool.and_eq_true] at hG; exact hG.1), fun _ _ => rfl⟩ hX h1
  refine anyIn_of_hq (q := q) (fun listed' a' w' hw' hL => ?_) _ _ _ _ s.cls h2
  rw [hL.1, hl]; exact hL.2 w' hw'
/-- One of those that may come up now. -/
def ST (P : Program) (ops : Array Oper) (Q : Exit → Act → World → Prop) (n B : Nat) (W : World) (listed : Array Bool) (k : Nat) (R : RList) (L : List SProp) (j : Nat) : Prop :=
  ∀ a w, Sta n B W R L a w → wpOpIn (rf none) 0 P ops (NP Q) j (wpAnyIn (rf none) 0 P .any ops (NP Q) k (listed.setIfInBounds j true)) a w
theorem each_nil {p : Nat → Prop} : ∀ j ∈ ([] : List Nat), p j := fun _ h => by cases h
theorem each_cons {p : Nat → Prop} {i : Nat} {H : List Nat} (h : p i) (t : ∀ j ∈ H, p j) : ∀ j ∈ i :: H, p j := fun j hj => by
  rcases List.mem_cons.1 hj with e | e
  · subst e; exact h
  · exact t j e
theorem at_each {H : List Nat} (hr : Region.ready .any ops listed = H) (hne : H.isEmpty = false) (h : ∀ j ∈ H, ST P ops Q n B W listed k R L j) : AT P ops Q n B W listed (k + 1) R L := fun a w s =>
  ⟨fun h0 => (by rw [← hr, h0] at hne; cases hne), fun j hj => h j (hr ▸ hj) a w s⟩
theorem st_q (hl : listed.setIfInBounds i true = l') (hi : ops[i]? = some o) (h : OQ P n B W o R L v) (hg : Wants ops R o.guard true) (hp : Put n R o.dst v R') (K : AT P ops Q n B W l' k R' L) : ST P ops Q n B W listed k R L i := fun a w s => by
  subst hl
  unfold wpOpIn
  simp only [hi]
  rw [if_pos (hg.spec s.regs)]
  exact wpIn_quiet (C := Cls B W L) (K := fun a' => Regs n a' R') s.cls (fun a' w' hw' hr => K a' w' (hw'.st hr)) ⟨v, fun w' hw' => h a w' (hw'.st s.regs), hp a s.regs⟩
theorem st_t {X : Type} {v : X → Value} {L' : X → List SProp} {R' : X → RList} (hl : listed.setIfInBounds i true = l') (hi : ops[i]? = some o) (h : OT P n B W o R L v L') (hg : Wants ops R o.guard true) (hp : ∀ x, Put n R o.dst (v x) (R' x))
    (K : ∀ x, AT P ops Q n B W l' k (R' x) (L' x)) : ST P ops Q n B W listed k R L i := fun a w s => by
  subst hl
  unfold wpOpIn
  simp only [hi]
  rw [if_pos (hg.spec s.regs)]
  exact wpIn_turn (h a w s) fun x w' hw' => K x _ _ (hw'.st (hp x a s.regs))
theorem aE (e : Ent L L') (h : AT P ops Q n B W listed k R L') : AT P ops Q n B W listed k R L := fun a w s => h a w ⟨s.regs, s.below, s.lo, e.sat s.sat⟩
end
end
section
open Go Go.RowKit
def objA (l : Nat) (o : Obj) : SProp := fun h => h l 0 = some (.obj o)
section
variable {B : Nat} {w : World} {L M : List SProp} {l : Nat} {o o' : Obj}
theorem Sat.obj (s : Sat B w (objA l o :: L)) : B ≤ l ∧ w.heap[l]? = some o ∧ Obj.plain o = true := by
  obtain ⟨h, H, k1, k2, a, e, hA, hL⟩ := s
  have := H l 0 (.obj o) (by rw [e]; unfold join; rw [show k1 l 0 = _ from hA])
  exact ⟨this.1, this.2.1, this.2.2.1⟩
theorem Sat.newObj (s : Sat B w L) (hB : B ≤ w.heap.size) (hp : Obj.plain o = true) : Sat B (w.alloc o) (objA w.heap.size o :: L) := by
  obtain ⟨h, H, hL⟩ := s
  have hfar : ∀ j, h w.heap.size j = none := fun j => by
    cases e : h w.heap.size j with
    | none => rfl
    | some x => exact absurd (H _ _ _ e).2.lt (by omega)
  refine ⟨join (fun b j => if b = w.heap.size ∧ j = 0 then some (.obj o) else none) h, ?_, _, h, ?_, rfl, ?_, hL⟩
  · intro b j x hx
    unfold join at hx
    by_cases hc : b = w.heap.size ∧ j = 0
    · obtain ⟨rfl, rfl⟩ := hc
      simp only [and_self, if_true] at hx
      obtain rfl := Option.some.inj hx
      exact ⟨hB, heap_alloc_new w _, hp, rfl⟩
    · simp only [if_neg hc] at hx
      have h2 := H b j x hx
      exact ⟨h2.1, h2.2.same (Below.heap_alloc w _ _ h2.2.lt)⟩
  · intro b j
    by_cases hc : b = w.heap.size ∧ j = 0
    · obtain ⟨rfl, rfl⟩ := hc; exact .inr (.inl (hfar _))
    · left; simp [hc]
  · show (if w.heap.size = w.heap.size ∧ 0 = 0 then some (Item.obj o) else none) = some (.obj o)
    simp
end
section
variable {P : Program} {Q : Exit → Act → World → Prop} {B : Nat} {W : World} {L M : List SProp}
  {ty : TypeId} {ps : String} {af : Array Edge} {g : Option (Nat × Bool)}
theorem Cls.perm {w : World} (h : Cls B W L w) (p : L.Perm M) : Cls B W M w := ⟨h.1, h.2.1, h.2.2.perm p⟩
theorem Cls.newObj {w : World} {o : Obj} (h : Cls B W L w) (hp : Obj.plain o = true) : Cls B W (objA w.heap.size o :: L) (w.alloc o) :=
  ⟨h.1.alloc h.2.1 o, by rw [World.size_alloc]; have := h.2.1; omega, h.2.2.newObj h.2.1 hp⟩
/-! ### Behind a range over a function: activations that hold a mark -/
section
variable {o : Oper} {ops : Array Oper} {n : Nat} {R R' : RList} {v : Value} {rest : List Oper}
end
end
end
section
open Go Go.RowKit
/-- u reads as w does from block n on. -/
def Reads (n : Nat) (w u : World) : Prop := ∀ b o v, n ≤ b → w.cell? ⟨b, o, none⟩ = some v → u.cell? ⟨b, o, none⟩ = some v
theorem Reads.refl (n : Nat) (w : World) : Reads n w w := fun _ _ _ _ h => h
def agrees (w : World) (h : Hp) : Prop := ∀ b o x, h b o = some x → itemOk w b o x
def heldS (Φ : World → Prop) : SProp := fun h => ∀ w, agrees w h → Φ w
section
variable {P : Program} {n B : Nat} {W : World} {R R' : RList} {L L' M : List SProp} {v u : Value} {x y z : Operand} {w w' : World} {Φ : World → Prop}
  {d : Option Tmp} {ty : TypeId} {ps : String} {af : Array Edge} {g : Option (Nat × Bool)} {T T' : TypeId}
theorem Sat.held (s : Sat B w (heldS Φ :: L)) : Φ w := by
  obtain ⟨h, H, k1, k2, a, e, hA, hL⟩ := s
  exact hA w fun b o x hx => (H b o x (by rw [e]; unfold join; rw [hx])).2
end
end
section
open Go Go.RowKit
theorem lt_of_cell {u : World} {b o : Nat} {v : Value} (h : u.cell? ⟨b, o, none⟩ = some v) : b < u.heap.size := by
  rcases Nat.lt_or_ge b u.heap.size with h1 | h1
  · exact h1
  · have e := Array.getElem?_eq_none h1
    unfold World.cell? at h; rw [e] at h; cases h
/-- An entailment that the world may help to show. -/
def SE (L L' : List SProp) : Prop := ∀ B w, Sat B w L → Sat B w L'
/-- Read only; it may be had as often as one likes. -/
def lookS (Φ : World → Prop) : SProp := fun h => ∃ k : Hp, (∀ b o x, k b o = some x → (∃ v, x = .look v) ∧ h b o = some x) ∧ ∀ w, agrees w k → Φ w
section
variable {r : Option Nat} {P : Program} {ops : Array Oper} {Q : Exit → Act → World → Prop} {n B : Nat} {W : World} {R R' : RList} {L L' L'' M : List SProp} {Φ Ψ : World → Prop} {v : Value} {x y z : Operand}
  {d : Option Tmp} {ty : TypeId} {ps : String} {af : Array Edge} {g : Option (Nat × Bool)} {T T' : TypeId}
theorem SE.of (e : Ent L L') : SE L L' := fun _ _ s => s.imp e
theorem SE.trans (h : SE L L') (k : SE L' L'') : SE L L'' := fun B w s => k B w (h B w s)
theorem rt_se {l : List Oper} (e : SE L L') (h : RT r P ops Q n B W l R L') : RT r P ops Q n B W l R L := fun a w s => h a w ⟨s.regs, s.below, s.lo, e _ _ s.sat⟩
theorem et_se {e' : Exit} (e : SE L L') (h : ET Q n B W e' R L') : ET Q n B W e' R L := fun a w s => h a w ⟨s.regs, s.below, s.lo, e _ _ s.sat⟩
theorem at_se {listed : Array Bool} {k : Nat} (e : SE L L') (h : AT P ops Q n B W listed k R L') : AT P ops Q n B W listed k R L := fun a w s => h a w ⟨s.regs, s.below, s.lo, e _ _ s.sat⟩
/-- An assertion with an unknown in it is opened, flat. -/
def exL {X : Type} (N : X → List SProp) : SProp := fun h => ∃ x, star (N x) h
theorem sat_open {X : Type} {N : X → List SProp} {w : World} (s : Sat B w (exL N :: L)) : ∃ x, Sat B w (N x ++ L) := by
  obtain ⟨h, H, k1, k2, a, e, ⟨x, hA⟩, hL⟩ := s
  exact ⟨x, h, H, star_append.2 ⟨k1, k2, a, e, hA, hL⟩⟩
theorem rt_open {X : Type} {N : X → List SProp} {l : List Oper} (p : Pick L (exL N) M) (k : ∀ x, RT r P ops Q n B W l R (N x ++ M)) : RT r P ops Q n B W l R L := fun a w s => by
  obtain ⟨x, hx⟩ := sat_open (s.sat.perm p.perm)
  exact k x a w ⟨s.regs, s.below, s.lo, hx⟩
theorem ct_open {X : Type} {N : X → List SProp} {c : Code} (p : Pick L (exL N) M) (k : ∀ x, CT r P Q n B W c R (N x ++ M)) : CT r P Q n B W c R L := fun a w s => by
  obtain ⟨x, hx⟩ := sat_open (s.sat.perm p.perm)
  exact k x a w ⟨s.regs, s.below, s.lo, hx⟩
theorem at_open {X : Type} {N : X → List SProp} {listed : Array Bool} {q : Nat} (p : Pick L (exL N) M) (k : ∀ x, AT P ops Q n B W listed q R (N x ++ M)) : AT P ops Q n B W listed q R L := fun a w s => by
  obtain ⟨x, hx⟩ := sat_open (s.sat.perm p.perm)
  exact k x a w ⟨s.regs, s.below, s.lo, hx⟩
theorem st_open {X : Type} {N : X → List SProp} {listed : Array Bool} {q j : Nat} (p : Pick L (exL N) M) (k : ∀ x, ST P ops Q n B W listed q R (N x ++ M) j) : ST P ops Q n B W listed q R L j := fun a w s => by
  obtain ⟨x, hx⟩ := sat_open (s.sat.perm p.perm)
  exact k x a w ⟨s.regs, s.below, s.lo, hx⟩
theorem uE {listed : Array Bool} {k j : Nat} (e : Ent L L') (h : ST P ops Q n B W listed k R L' j) : ST P ops Q n B W listed k R L j := fun a w s => h a w ⟨s.regs, s.below, s.lo, e.sat s.sat⟩
theorem st_fact {listed : Array Bool} {q j : Nat} {p : Prop} (h : ∀ w, Cls B W L w → p) (k : p → ST P ops Q n B W listed q R L j) : ST P ops Q n B W listed q R L j := fun a w s => k (h w s.cls) a w s
theorem shut {X : Type} {N : X → List SProp} (x : X) {K : List SProp} (hk : K = N x ++ L) : Ent K (exL N :: L) := fun h s => by
  subst hk
  obtain ⟨k1, k2, a, e, hA, hL⟩ := star_append.1 s
  exact ⟨k1, k2, a, e, ⟨x, hA⟩, hL⟩
theorem at_fact {listed : Array Bool} {q : Nat} {p : Prop} (h : ∀ w, Cls B W L w → p) (k : p → AT P ops Q n B W listed q R L) : AT P ops Q n B W listed q R L := fun a w s => k (h w s.cls) a w s
/-! ### Held by many -/
theorem look_dup : Ent (lookS Φ :: L) (lookS Φ :: lookS Φ :: L) := fun h s => by
  obtain ⟨k1, k2, a, e, ⟨k, hk, hΦ⟩, hL⟩ := s
  refine ⟨k, h, fun b o => ?_, ?_, ⟨k, fun b o x hx => ⟨(hk b o x hx).1, hx⟩, hΦ⟩, ⟨k1, k2, a, e, ⟨k, hk, hΦ⟩, hL⟩⟩
  · cases hkb : k b o with
    | none => exact .inl rfl
    | some x =>
      obtain ⟨⟨v, rfl⟩, h2⟩ := hk b o x hkb
      refine .inr (.inr ⟨v, rfl, ?_⟩)
      rw [e]; unfold join; rw [h2]
  · funext b o
    unfold join
    cases hkb : k b o with
    | none => rfl
    | some x =>
      obtain ⟨⟨v, rfl⟩, h2⟩ := hk b o x hkb
      rw [e]; unfold join; rw [h2]
theorem look_mono (f : ∀ u, Φ u → Ψ u) : ∀ h, lookS Φ h → lookS Ψ h := fun _ ⟨k, hk, hΦ⟩ => ⟨k, hk, fun w hw => f w (hΦ w hw)⟩
theorem look_sat {w : World} (s : Sat B w L) (h : lookS Φ ∈ L) : Φ w := by
  obtain ⟨l', p⟩ := Pick.of_mem h
  obtain ⟨k, H, k1, k2, a, e, ⟨k', hk, hΦ⟩, hL⟩ := s.perm p.perm
  exact hΦ w fun b o x hx => (H b o x (by rw [e]; unfold join; rw [(hk b o x hx).2])).2
theorem look_and2 {h k : Hp} (a : apart h k) (h1 : lookS Φ h) (h2 : lookS Ψ k) : lookS (fun u => Φ u ∧ Ψ u) (join h k) := by
  obtain ⟨k1, q1, p1⟩ := h1
  obtain ⟨k2, q2, p2⟩ := h2
  refine ⟨join k1 k2, fun b o x hx => ?_, fun w hw => ⟨p1 w fun b o x hx => hw b o x (by unfold join; rw [hx]), p2 w fun b o x hx => hw b o x ?_⟩⟩
  · unfold join at hx ⊢
    cases e1 : k1 b o with
    | some y =>
      rw [e1] at hx; obtain rfl := Option.some.inj hx
      obtain ⟨g1, g2⟩ := q1 b o y e1
      exact ⟨g1, by rw [g2]⟩
    | none =>
      rw [e1] at hx
      obtain ⟨g1, g2⟩ := q2 b o x hx
      refine ⟨g1, ?_⟩
      rcases a b o with e | e | ⟨v, e3, e4⟩
      · rw [e]; exact g2
      · rw [e] at g2; cases g2
      · rw [e3]; rw [e4] at g2; exact g2
  · unfold join
    cases e1 : k1 b o with
    | none => exact hx
    | some y =>
      obtain ⟨⟨v, rfl⟩, g2⟩ := q1 b o y e1
      obtain ⟨⟨u, rfl⟩, g4⟩ := q2 b o x hx
      rcases a b o with e | e | ⟨v', e3, e4⟩
      · rw [e] at g2; cases g2
      · rw [e] at g4; cases g4
      · rw [e3] at g2; rw [e4] at g4
        injection g2 with g2; injection g2 with g2
        injection g4 with g4; injection g4 with g4
        rw [← g2, ← g4]
theorem look_and : Ent (lookS Φ :: lookS Ψ :: L) (lookS (fun u => Φ u ∧ Ψ u) :: L) := fun h s => by
  obtain ⟨k1, k2, a, e, h1, k3, k4, a', e', h2, hL⟩ := s
  subst e'
  have a1 := (apart_join2 a').1 (apart_comm a)
  exact ⟨join k1 k3, k4, (apart_join2 (apart_comm a1.1)).2 ⟨apart_comm a1.2, a'⟩, by rw [e, join_assoc], look_and2 (apart_comm a1.1) h1 h2, hL⟩
theorem look_true : Ent L (lookS (fun _ => True) :: L) := fun h s => ⟨fun _ _ => none, h, fun _ _ => .inl rfl, by funext x y; rfl, ⟨fun _ _ => none, (fun _ _ _ (e : none = some _) => by cases e), fun _ _ => trivial⟩, s⟩
/-- What is owned is given away, to be read for good. -/
theorem look_of_pts {b o : Nat} {vs : List Value} : SE (pts b o vs :: L) (lookS (fun u => ∀ i v, vs[i]? = some v → u.cell? ⟨b, o + i, none⟩ = some v) :: L) := fun B w s => by
  obtain ⟨h, H, k1, k2, a, e, hA, hL⟩ := s
  let f : Option Item → Option Item := fun x => match x with | some (.cell v) => some (.look v) | y => y
  have hin : ∀ i v, vs[i]? = some v → k1 b (o + i) = some (.cell v) := hA
  refine ⟨join (fun b o => f (k1 b o)) k2, ?_, _, k2, ?_, rfl, ⟨fun b' o' => if b' = b ∧ o ≤ o' then (match vs[o' - o]? with | some v => some (.look v) | none => none) else none, ?_, ?_⟩, hL⟩
  · intro b' o' x hx
    unfold join at hx
    simp only [] at hx
    cases e1 : k1 b' o' with
    | none =>
      rw [e1] at hx
      exact H b' o' x (by rw [e]; unfold join; rw [e1]; exact hx)
    | some y =>
      have h1 := H b' o' y (by rw [e]; unfold join; rw [e1])
      rw [e1] at hx
      cases y with
      | cell v => obtain rfl := Option.some.inj hx; exact ⟨h1.1, h1.2.1⟩
      | obj v => obtain rfl := Option.some.inj hx; exact h1
      | look v => obtain rfl := Option.some.inj hx; exact h1
  · intro b' o'
    rcases a b' o' with e1 | e1 | ⟨v, e1, e2⟩
    · left; simp only [e1]; rfl
    · exact .inr (.inl e1)
    · right; right; exact ⟨v, by simp only [e1]; rfl, e2⟩
  · intro b' o' x hx
    simp only [] at hx
    by_cases hc : b' = b ∧ o ≤ o'
    · rw [if_pos hc] at hx
      obtain ⟨rfl, hle⟩ := hc
      cases hv : vs[o' - o]? with
      | none => rw [hv] at hx; cases hx
      | some v =>
        rw [hv] at hx
        obtain rfl := Option.some.inj hx
        have := hin _ _ hv
        rw [Nat.add_sub_cancel' hle] at this
        exact ⟨⟨v, rfl⟩, by simp only [this]; rfl⟩
    · rw [if_neg hc] at hx; cases hx
  · intro u hu i v hi
    have := hu b (o + i) (.look v) (by simp [hi])
    exact this
/-! ### Lists that are only read -/
def roS {α : Type} (enc : α → List Value) (sz : Nat) (A : Option Addr) (c : Nat) (xs : List α) : SProp := lookS fun u => Sl enc sz u u.heap.size A xs ∧ xs.length ≤ c
section
variable {α : Type} {enc : α → List Value} {sz : Nat} {A : Option Addr} {c : Nat} {xs : List α}
theorem flat_get {α : Type} {enc : α → List Value} {sz : Nat} (henc : ∀ x, (enc x).length = sz) : ∀ (xs : List α) (i : Nat) (x : α), xs[i]? = some x → ∀ (j : Nat) y, (enc x)[j]? = some y → (xs.flatMap enc)[i * sz + j]? = some y
  | [], i, x, h, _, _, _ => by cases h
  | z :: xs, 0, x, h, j, y, hj => by
    simp at h; subst h
    rw [List.flatMap_cons, Nat.zero_mul, Nat.zero_add, List.getElem?_append_left (List.getElem?_eq_some_iff.1 hj).1]; exact hj
  | z :: xs, i + 1, x, h, j, y, hj => by
    rw [List.flatMap_cons, List.getElem?_append_right (by rw [henc, Nat.add_mul]; omega)]
    have := flat_get henc xs i x (by simpa using h) j y hj
    rw [henc, ← this]; congr 1; rw [Nat.add_mul]; omega
theorem ro_nil {L : List SProp} {A : Option Addr} {c : Nat} : Ent L (roS enc sz A c ([] : List α) :: L) := look_true.trans (Ent.cons (look_mono fun _ _ => ⟨Sl.nil, Nat.zero_le _⟩) Ent.refl)
theorem ro_of_row (hsz : 0 < sz) (henc : ∀ x, (enc x).length = sz) {m : Nat} (hm : xs.length = m) : SE (rowS A m c sz (xs.flatMap enc) :: L) (roS enc sz A c xs :: L) := fun B w s => by
  subst hm
  obtain ⟨h1, h2, h3, h4⟩ := sat_rowS s (List.mem_cons_self ..)
  cases xs with
  | nil => exact ro_nil.sat s.drop
  | cons x xs =>
    obtain ⟨h, H, k1, k2, a, e, ⟨r1, r2, r3, r4⟩, hL⟩ := s
    rcases r4 with ⟨_, r4⟩ | ⟨b, o, spare, rfl, rs, rp⟩
    · simp at r2; omega
    · have s' : Sat B w (pts b o ((x :: xs).flatMap enc) :: L) := ⟨h, H, k1, k2, a, e, (pts_append rp).1, hL⟩
      have s2 := look_of_pts B w s'
      have hlen : (x :: xs).length ≤ 9223372036854775807 := by unfold maxLen at r3; omega
      refine s2.imp fun h => star_head (look_mono fun u hu => ⟨⟨hlen, fun _ => ⟨b, o, rfl, ?_, ?_⟩⟩, r2⟩) 
      · cases hx : enc x with
        | nil => have := henc x; rw [hx] at this; simp at this; omega
        | cons y ys => exact lt_of_cell (hu 0 y (by rw [List.flatMap_cons, hx]; rfl))
      · intro i z hz j v hj
        have := hu _ _ (flat_get henc (x :: xs) i z hz j v hj)
        rw [Nat.add_assoc]; exact this
theorem ro_sl {w : World} (s : Sat B w L) (h : roS enc sz A c xs ∈ L) : Sl enc sz w w.heap.size A xs ∧ xs.length ≤ c := look_sat s h
theorem ro_take {k : Nat} : Ent (roS enc sz A c xs :: L) (roS enc sz A c (xs.take k) :: roS enc sz A c xs :: L) := look_dup.trans (Ent.cons (look_mono fun u ⟨h1, h2⟩ => ⟨⟨by have := h1.1; simp; omega, fun hne => by
  obtain ⟨b, o, e, hb, hc⟩ := h1.2 (fun e => hne (by rw [e]; simp))
  refine ⟨b, o, e, hb, fun i x hx j u hu => hc i x ?_ j u hu⟩
  rw [List.getElem?_take] at hx
  split at hx
  · exact hx
  · cases hx⟩, by simp; omega⟩) Ent.refl)
theorem ro_dup : Ent (roS enc sz A c xs :: L) (roS enc sz A c xs :: roS enc sz A c xs :: L) := look_dup
theorem src_ro {A : Option Addr} {c m : Nat} {k : IntKind} {enc : Int → List Value} (he : ∀ x, enc x = [.int k x]) {xs : List Int} (h : roS enc 1 A c xs ∈ L) (hm : xs.length = m) : Src B W L A m (xs.map (Value.int k)) := fun w hw => by
  subst hm
  by_cases hx : xs = []
  · left; subst hx; rfl
  · right
    obtain ⟨b, o, rfl, hb, hc⟩ := (ro_sl hw.2.2 h).1.2 hx
    refine ⟨b, o, rfl, fun j u hj => ?_⟩
    rw [List.getElem?_map, Option.map_eq_some_iff] at hj
    obtain ⟨e, hj, rfl⟩ := hj
    have := hc j e hj 0 (.int k e) (by rw [he]; rfl)
    rw [Nat.mul_one, Nat.add_zero] at this
    exact this
theorem ints_flat {k : IntKind} {enc : Int → List Value} (he : ∀ x, enc x = [.int k x]) (xs : List Int) : xs.flatMap enc = xs.map (Value.int k) := by
  induction xs with
  | nil => rfl
  | cons x xs ih => rw [List.flatMap_cons, ih, he]; rfl
theorem ro_of_ints {k : IntKind} {enc : Int → List Value} (he : ∀ x, enc x = [.int k x]) {xs : List Int} {m : Nat} (hm : xs.length = m) : SE (rowS A m c 1 (xs.map (Value.int k)) :: L) (roS enc 1 A c xs :: L) := by
  rw [← ints_flat he xs]
  exact ro_of_row (by omega) (fun x => by rw [he]; rfl) hm
end
end
end
end Go.Proofs.YtpbkelpokpglaaaGreat
