/- The operations, one law each. No program occurs here. -/
import Derived.Test.YtkfkiaieeiodnaaSl2
namespace Go.Proofs.Ytkfkiaieeiodnaa
open Go Go.RowKit

section
variable {P : Program} {n B : Nat} {W : World} {R R' : RList} {L L' M : List SProp} {v u : Value} {x y z : Operand}
  {d : Option Tmp} {ty : TypeId} {ps : String} {af : Array Edge} {g : Option (Nat × Bool)} {T T' : TypeId}
theorem oq_run {o : Oper} (h : ∀ a w, Sta n B W R L a w → (execOp a.eval o).run P w = .ok (.value v) w) : OQ P n B W o R L v := fun a w s => quietAt_value (h a w s)
theorem und_run {w : World} {t : TypeDesc} (h : P.underlying T = some t) : (Go.underlying T).run P w = .ok t w := by simp [Go.underlying, program, Sem.run, h, pure, bind, Sem.bind]
theorem info_run {w : World} {i : TypeInfo} (h : P.info? T = some i) : (typeInfo T).run P w = .ok i w := by simp [typeInfo, program, Sem.run, h, pure, bind, Sem.bind]
theorem op_move (hx : EvalR R x v) : OP P n ⟨d, .move x, ty, ps, af, g⟩ R v := fun a w s => by
  simp only [execOp, hx.eval s]; rfl
theorem op_assign (hx : EvalR R x v) : OP P n ⟨d, .assign x, ty, ps, af, g⟩ R v := fun a w s => by
  simp only [execOp, hx.eval s]; rfl
theorem op_pick {b : Bool} (hc : EvalR R x (.bool b)) (hy : EvalR R (if b then y else z) v) : OP P n ⟨d, .pick x y z, ty, ps, af, g⟩ R v := fun a w s => by
  have := hy.eval s
  cases b <;> simp only [execOp, hc.eval s] <;> simp only [Bool.false_eq_true, if_false, if_true] at this <;> simp [asBool, this]
theorem op_extract {vs : Array Value} {i : Nat} (hx : EvalR R x (.tuple vs)) (hi : vs[i]? = some v) : OP P n ⟨d, .extract x i, ty, ps, af, g⟩ R v := fun a w s => by
  simp [execOp, hx.eval s, Instr.extract, hi]
theorem op_nilCheck {p : Addr} (hx : EvalR R x (.pointer (some p))) : OP P n ⟨d, .nilCheck x, ty, ps, af, g⟩ R (.pointer (some p)) := fun a w s => by
  simp [execOp, hx.eval s]

/-! ### Integers -/
section
variable {k k' : IntKind} {a b c : Int}
theorem op_add (hx : EvalR R x (.int k a)) (hy : EvalR R y (.int k b)) (hz : k.wrap (a + b) = c) : OP P n ⟨d, .binOp .add T x y T', ty, ps, af, g⟩ R (.int k c) := fun ac w s => by
  subst hz
  cases k <;> simp [execOp, hx.eval s, hy.eval s, eqGuard, binOp, Op.intArith]
theorem op_sub (hx : EvalR R x (.int k a)) (hy : EvalR R y (.int k b)) (hz : k.wrap (a - b) = c) : OP P n ⟨d, .binOp .sub T x y T', ty, ps, af, g⟩ R (.int k c) := fun ac w s => by
  subst hz
  cases k <;> simp [execOp, hx.eval s, hy.eval s, eqGuard, binOp, Op.intArith]
theorem op_mul (hx : EvalR R x (.int k a)) (hy : EvalR R y (.int k b)) (hz : k.wrap (a * b) = c) : OP P n ⟨d, .binOp .mul T x y T', ty, ps, af, g⟩ R (.int k c) := fun ac w s => by
  subst hz
  cases k <;> simp [execOp, hx.eval s, hy.eval s, eqGuard, binOp, Op.intArith]
theorem op_quo (hx : EvalR R x (.int k a)) (hy : EvalR R y (.int k b)) (h0 : b ≠ 0) (hz : k.wrap (a.tdiv b) = c) : OP P n ⟨d, .binOp .quo T x y T', ty, ps, af, g⟩ R (.int k c) := fun ac w s => by
  subst hz
  cases k <;> simp [execOp, hx.eval s, hy.eval s, eqGuard, binOp, Op.intDiv, h0]
theorem op_rem (hx : EvalR R x (.int k a)) (hy : EvalR R y (.int k b)) (h0 : b ≠ 0) (hz : a.tmod b = c) : OP P n ⟨d, .binOp .rem T x y T', ty, ps, af, g⟩ R (.int k c) := fun ac w s => by
  subst hz
  cases k <;> simp [execOp, hx.eval s, hy.eval s, eqGuard, binOp, Op.intDiv, h0]
theorem op_and (hx : EvalR R x (.int k a)) (hy : EvalR R y (.int k b)) (hz : k.wrap (BitVec.ofInt k.bits a &&& BitVec.ofInt k.bits b).toNat = c) : OP P n ⟨d, .binOp .and T x y T', ty, ps, af, g⟩ R (.int k c) := fun ac w s => by
  subst hz
  cases k <;> simp [execOp, hx.eval s, hy.eval s, eqGuard, binOp, Op.intBits]
theorem op_or (hx : EvalR R x (.int k a)) (hy : EvalR R y (.int k b)) (hz : k.wrap (BitVec.ofInt k.bits a ||| BitVec.ofInt k.bits b).toNat = c) : OP P n ⟨d, .binOp .or T x y T', ty, ps, af, g⟩ R (.int k c) := fun ac w s => by
  subst hz
  cases k <;> simp [execOp, hx.eval s, hy.eval s, eqGuard, binOp, Op.intBits]
theorem op_xor (hx : EvalR R x (.int k a)) (hy : EvalR R y (.int k b)) (hz : k.wrap (BitVec.ofInt k.bits a ^^^ BitVec.ofInt k.bits b).toNat = c) : OP P n ⟨d, .binOp .xor T x y T', ty, ps, af, g⟩ R (.int k c) := fun ac w s => by
  subst hz
  cases k <;> simp [execOp, hx.eval s, hy.eval s, eqGuard, binOp, Op.intBits]
theorem op_andNot (hx : EvalR R x (.int k a)) (hy : EvalR R y (.int k b)) (hz : k.wrap (BitVec.ofInt k.bits a &&& ~~~ BitVec.ofInt k.bits b).toNat = c) : OP P n ⟨d, .binOp .andNot T x y T', ty, ps, af, g⟩ R (.int k c) := fun ac w s => by
  subst hz
  cases k <;> simp [execOp, hx.eval s, hy.eval s, eqGuard, binOp, Op.intBits]
theorem op_shl (hx : EvalR R x (.int k a)) (hy : EvalR R y (.int k' b)) (h0 : 0 ≤ b) (hz : k.wrap (a * 2 ^ min b.toNat k.bits) = c) : OP P n ⟨d, .binOp .shl T x y T', ty, ps, af, g⟩ R (.int k c) := fun ac w s => by
  subst hz
  have : ¬ b < 0 := by omega
  simp [execOp, hx.eval s, hy.eval s, eqGuard, binOp, Op.shift, this]
theorem op_shr (hx : EvalR R x (.int k a)) (hy : EvalR R y (.int k' b)) (h0 : 0 ≤ b) (hz : a.fdiv (2 ^ min b.toNat k.bits) = c) : OP P n ⟨d, .binOp .shr T x y T', ty, ps, af, g⟩ R (.int k c) := fun ac w s => by
  subst hz
  have : ¬ b < 0 := by omega
  simp [execOp, hx.eval s, hy.eval s, eqGuard, binOp, Op.shift, this]
theorem op_lss (hx : EvalR R x (.int k a)) (hy : EvalR R y (.int k b)) : OP P n ⟨d, .binOp .lss T x y T', ty, ps, af, g⟩ R (.bool (decide (a < b))) := fun ac w s => by
  cases k <;> simp [execOp, hx.eval s, hy.eval s, eqGuard, binOp, Op.intCmp]
theorem op_leq (hx : EvalR R x (.int k a)) (hy : EvalR R y (.int k b)) : OP P n ⟨d, .binOp .leq T x y T', ty, ps, af, g⟩ R (.bool (decide (a ≤ b))) := fun ac w s => by
  cases k <;> simp [execOp, hx.eval s, hy.eval s, eqGuard, binOp, Op.intCmp]
theorem op_gtr (hx : EvalR R x (.int k a)) (hy : EvalR R y (.int k b)) : OP P n ⟨d, .binOp .gtr T x y T', ty, ps, af, g⟩ R (.bool (decide (b < a))) := fun ac w s => by
  cases k <;> simp [execOp, hx.eval s, hy.eval s, eqGuard, binOp, Op.intCmp]
theorem op_geq (hx : EvalR R x (.int k a)) (hy : EvalR R y (.int k b)) : OP P n ⟨d, .binOp .geq T x y T', ty, ps, af, g⟩ R (.bool (decide (b ≤ a))) := fun ac w s => by
  cases k <;> simp [execOp, hx.eval s, hy.eval s, eqGuard, binOp, Op.intCmp]
theorem op_eql (hx : EvalR R x (.int k a)) (hy : EvalR R y (.int k b)) : OP P n ⟨d, .binOp .eql T x y T', ty, ps, af, g⟩ R (.bool (decide (a = b))) := fun ac w s => by
  cases k <;> simp [execOp, hx.eval s, hy.eval s, eqGuard, binOp, Op.intCmp] <;> rfl
theorem op_neq (hx : EvalR R x (.int k a)) (hy : EvalR R y (.int k b)) : OP P n ⟨d, .binOp .neq T x y T', ty, ps, af, g⟩ R (.bool (decide (a ≠ b))) := fun ac w s => by
  have e : (a != b) = decide (a ≠ b) := by rw [bne]; by_cases h : a = b <;> simp [h]
  cases k <;> simp only [execOp, hx.eval s, hy.eval s, eqGuard, binOp, Op.intCmp, e] <;> rfl
theorem op_eqb {a b : Bool} (hT : P.underlying T = some .bool) (hx : EvalR R x (.bool a)) (hy : EvalR R y (.bool b)) : OP P n ⟨d, .binOp .eql T x y T', ty, ps, af, g⟩ R (.bool (decide (a = b))) := fun ac w s => by
  have e : (a == b) = decide (a = b) := by cases a <;> cases b <;> rfl
  simp only [execOp, hx.eval s, hy.eval s, eqGuard]
  simp [go_sem, hT, e]
theorem op_neqb {a b : Bool} (hT : P.underlying T = some .bool) (hx : EvalR R x (.bool a)) (hy : EvalR R y (.bool b)) : OP P n ⟨d, .binOp .neq T x y T', ty, ps, af, g⟩ R (.bool (decide (a ≠ b))) := fun ac w s => by
  have e : (!(a == b)) = decide (a ≠ b) := by cases a <;> cases b <;> rfl
  simp only [execOp, hx.eval s, hy.eval s, eqGuard]
  simp [go_sem, hT, e]
theorem op_not {p : Prop} [Decidable p] (hx : EvalR R x (.bool (decide p))) : OP P n ⟨d, .unOp .not T x, ty, ps, af, g⟩ R (.bool (decide (¬ p))) := fun ac w s => by
  simp [execOp, hx.eval s, Op.unary]
theorem op_notb {b : Bool} (hx : EvalR R x (.bool b)) : OP P n ⟨d, .unOp .not T x, ty, ps, af, g⟩ R (.bool (!b)) := fun ac w s => by
  simp [execOp, hx.eval s, Op.unary]
theorem op_neg (hx : EvalR R x (.int k a)) (hz : k.wrap (0 - a) = c) : OP P n ⟨d, .unOp .neg T x, ty, ps, af, g⟩ R (.int k c) := fun ac w s => by
  subst hz
  simp [execOp, hx.eval s, Op.unary, Op.intArith]
theorem op_cpl (hx : EvalR R x (.int k a)) (hz : k.wrap (BitVec.ofInt k.bits (if k.signed then -1 else k.max) ^^^ BitVec.ofInt k.bits a).toNat = c) : OP P n ⟨d, .unOp .xor T x, ty, ps, af, g⟩ R (.int k c) := fun ac w s => by
  subst hz
  simp [execOp, hx.eval s, Op.unary, Op.intBits]
theorem op_conv {k1 : IntKind} (hx : EvalR R x (.int k a)) (hs : P.underlying T = some (.int k1)) (ht : P.underlying T' = some (.int k')) (hz : k'.wrap a = c) : OP P n ⟨d, .convert T T' x, ty, ps, af, g⟩ R (.int k' c) := fun ac w s => by
  subst hz
  simp only [execOp, hx.eval s, convert]
  simp [go_sem, und_run hs, und_run ht, Conv.intToInt]
theorem op_len {p : Option Addr} {len cap : Nat} {E : TypeId} (hx : EvalR R x (.slice p len cap)) (hT : P.underlying T = some (.slice E)) : OP P n ⟨d, .call ⟨.builtin .len, #[x], #[T]⟩, ty, ps, af, g⟩ R (.int .i64 len) := fun ac w s => by
  simp only [execOp, resolve, List.map_toArray, List.map_cons, List.map_nil, hx.eval s]
  simp [go_sem, invoke, builtin, Builtin.len_, und_run hT, goInt]
theorem op_cap {p : Option Addr} {len cap : Nat} {E : TypeId} (hx : EvalR R x (.slice p len cap)) (hT : P.underlying T = some (.slice E)) : OP P n ⟨d, .call ⟨.builtin .cap, #[x], #[T]⟩, ty, ps, af, g⟩ R (.int .i64 cap) := fun ac w s => by
  simp only [execOp, resolve, List.map_toArray, List.map_cons, List.map_nil, hx.eval s]
  simp [go_sem, invoke, builtin, Builtin.cap_, und_run hT, goInt]
theorem op_min (hx : EvalR R x (.int k a)) (hy : EvalR R y (.int k' b)) {Ts : Array TypeId} : OP P n ⟨d, .call ⟨.builtin .min, #[x, y], Ts⟩, ty, ps, af, g⟩ R (.int k (if b < a then b else a)) := fun ac w s => by
  simp only [execOp, resolve, List.map_toArray, List.map_cons, List.map_nil, hx.eval s, hy.eval s]
  simp [invoke, builtin, Builtin.min_, Builtin.min2]
theorem op_max (hx : EvalR R x (.int k a)) (hy : EvalR R y (.int k' b)) {Ts : Array TypeId} : OP P n ⟨d, .call ⟨.builtin .max, #[x, y], Ts⟩, ty, ps, af, g⟩ R (.int k (if a < b then b else a)) := fun ac w s => by
  simp only [execOp, resolve, List.map_toArray, List.map_cons, List.map_nil, hx.eval s, hy.eval s]
  simp [invoke, builtin, Builtin.max_, Builtin.max2]
end

theorem op_makeFunc {f : FuncId} {xs : List Operand} {vs : List Value} (hx : EvalRs R xs vs) : OP P n ⟨d, .makeFunc (.func f) #[] xs.toArray, ty, ps, af, g⟩ R (.func (.func f) #[] vs.toArray) := fun a w s => by
  have := hx.eval s
  simp only [execOp, List.map_toArray, this]
  rfl
/-! ### Addresses -/
theorem addr_plus (b o k : Nat) : (Addr.mk b o none).add k = ⟨b, o + k, none⟩ := by
  unfold Addr.add; split
  · subst_vars; rfl
  · rfl
/-- The place of a field that has cells. -/
def fieldOff (P : Program) (T : TypeId) (f : Nat) : Option Nat :=
  match P.underlying T with
  | some (.struct fs) => match fs[f]? with
    | some fd => match P.info? fd.type with
      | some i => if i.size = 0 then none else some fd.offset
      | none => none
    | none => none
  | _ => none
theorem op_field {b o k o' : Nat} {f : Nat} (hx : EvalR R x (.pointer (some ⟨b, o, none⟩))) (hf : fieldOff P T f = some k) (ho : o + k = o') : OP P n ⟨d, .fieldAddr T x f, ty, ps, af, g⟩ R (.pointer (some ⟨b, o', none⟩)) := fun ac w s => by
  subst ho
  unfold fieldOff at hf
  split at hf <;> try contradiction
  rename_i fs hU
  split at hf <;> try contradiction
  rename_i fd hfd
  split at hf <;> try contradiction
  rename_i i hi
  split at hf
  · contradiction
  · rename_i hz
    obtain rfl := Option.some.inj hf
    simp only [execOp, hx.eval s]
    simp [Instr.fieldAt, und_run hU, hfd, Instr.sureAddr, fieldPlace, sizeOf, info_run hi, hz, addr_plus]
def elemSize (P : Program) (T : TypeId) : Option Nat :=
  match P.underlying T with
  | some (.slice E) => (P.info? E).map (·.size)
  | _ => none
theorem op_index {k : IntKind} {b o len cap i sz o' : Nat} {j : Int} (hx : EvalR R x (.slice (some ⟨b, o, none⟩) len cap)) (hy : EvalR R y (.int k j)) (hj : j = (i : Int)) (hlt : i < len) (hs : elemSize P T = some sz) (ho : o + i * sz = o') :
    OP P n ⟨d, .indexAddr T x y, ty, ps, af, g⟩ R (.pointer (some ⟨b, o', none⟩)) := fun ac w s => by
  subst hj ho
  unfold elemSize at hs
  split at hs <;> try contradiction
  rename_i E hU
  cases hi : P.info? E with
  | none => rw [hi] at hs; cases hs
  | some inf =>
    rw [hi] at hs
    obtain rfl := Option.some.inj hs
    have h1 : (0 : Int) ≤ (i : Int) ∧ (i : Int) < (len : Int) := by omega
    simp only [execOp, hx.eval s, hy.eval s]
    simp [Instr.indexAt, asIntOf, und_run hU, sizeOf, info_run hi, h1, hlt, addr_plus]

/-! ### Loads -/
/-- How many cells a variable of a type has that is read as a whole; none: one cell, no aggregate. -/
def aggSize (P : Program) (T : TypeId) : Option (Option Nat) :=
  match P.underlying T with
  | some (.struct _) | some (.array ..) => (P.info? T).map fun i => some i.size
  | some _ => some none
  | none => none
theorem isAgg_run {w : World} {k : Option Nat} (h : aggSize P T = some k) : (isAgg T).run P w = .ok k.isSome w := by
  unfold aggSize at h
  unfold isAgg
  split at h
  · rename_i hU; cases hi : P.info? T <;> rw [hi] at h <;> simp at h
    subst h; simp [und_run hU]
  · rename_i hU; cases hi : P.info? T <;> rw [hi] at h <;> simp at h
    subst h; simp [und_run hU]
  · rename_i t h1 h2 hU
    obtain rfl := Option.some.inj h
    cases t <;> first | (simp [und_run hU]; done) | (exfalso; simp_all; done) | skip
  · cases h
theorem sizeOf_run {w : World} {k : Nat} (h : aggSize P T = some (some k)) : (sizeOf T).run P w = .ok k w := by
  unfold aggSize at h
  split at h
  · cases hi : P.info? T <;> rw [hi] at h <;> simp at h
    subst h; simp [sizeOf, info_run hi]
  · cases hi : P.info? T <;> rw [hi] at h <;> simp at h
    subst h; simp [sizeOf, info_run hi]
  · cases h
  · cases h
theorem run_bind_ok {α β : Type} {m : Sem α} {f : α → Sem β} {w w' : World} {a : α} (h : m.run P w = .ok a w') : (m >>= f).run P w = (f a).run P w' := by
  rw [Sem.run_bind, h]; rfl
theorem loadCells_run {w : World} {b o : Nat} : ∀ (us : List Value) (i : Nat) (acc : Array Value), (∀ j u, us[j]? = some u → w.cell? ⟨b, o + i + j, none⟩ = some u) →
    (loadCellsFrom ⟨b, o, none⟩ i us.length acc).run P w = .ok (acc ++ us.toArray) w
  | [], i, acc, _ => by simp [loadCellsFrom]
  | u :: us, i, acc, h => by
    have h0 := h 0 u rfl
    rw [Nat.add_zero] at h0
    have ih := loadCells_run (w := w) (b := b) (o := o) us (i + 1) (acc.push u) (fun j v hv => by
      have := h (j + 1) v (by simpa using hv)
      rw [← this]; congr 2; omega)
    simp only [List.length_cons, loadCellsFrom, addr_plus]
    rw [run_bind_ok (a := u) (w' := w) (by simp [load, Sem.run, h0])]
    rw [ih]; simp
theorem load_run {w : World} {b o : Nat} {k : Option Nat} {us : List Value} (ht : aggSize P T = some k) (hk : us.length = k.getD 1) (h : ∀ j u, us[j]? = some u → w.cell? ⟨b, o + j, none⟩ = some u)
    (hv : v = match k with | some _ => .agg us.toArray | none => us.headD undef) : (Instr.loadAt T (.pointer (some ⟨b, o, none⟩))).run P w = .ok v w := by
  subst hv
  simp only [Instr.loadAt, Instr.sureAddr]
  rw [run_bind_ok (a := (⟨b, o, none⟩ : Addr)) (w' := w) rfl]
  unfold loadVar
  rw [run_bind_ok (isAgg_run ht)]
  cases k with
  | none =>
    obtain ⟨u, rfl⟩ : ∃ u, us = [u] := by
      cases us with
      | nil => simp at hk
      | cons u us => cases us with
        | nil => exact ⟨u, rfl⟩
        | cons _ _ => simp at hk
    have := h 0 u rfl
    rw [Nat.add_zero] at this
    simp [load, Sem.run, this]
  | some k =>
    simp only [Option.isSome_some, if_true]
    rw [run_bind_ok (sizeOf_run ht)]
    have h1 := loadCells_run (P := P) (w := w) (b := b) (o := o) us 0 #[] (fun j u hu => by rw [Nat.add_zero]; exact h j u hu)
    simp only [Option.getD_some] at hk
    rw [hk] at h1
    rw [run_bind_ok (by simpa [loadCells] using h1)]
    rfl
end
end Go.Proofs.Ytkfkiaieeiodnaa
