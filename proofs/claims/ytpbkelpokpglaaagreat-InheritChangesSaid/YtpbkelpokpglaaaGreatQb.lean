/- Loads, stores, fresh memory, calls. No program occurs here. Loops; slices of the call's own; regions with a quiet head. No program occurs here. Names for places in lists. No program occurs here. Slices: of the call's own (rows), and slices that came in. No program occurs here. -/
import Derived.Test.YtpbkelpokpglaaaGreatQa
import Derived.Deep.LoopGhost
import Derived.StillTail
import Derived.Test.YtpbkelpokpglaaaGreatReg
import Derived.IntWalk
set_option linter.all false
namespace Go.Proofs.YtpbkelpokpglaaaGreat
section
open Go Go.RowKit
section
variable {P : Program} {n B : Nat} {W : World} {R R' : RList} {L L' M : List SProp} {v u : Value} {x y z : Operand}
  {d : Option Tmp} {ty : TypeId} {ps : String} {af : Array Edge} {g : Option (Nat × Bool)} {T T' : TypeId}
theorem sat_cell {w : World} {b o : Nat} {vs : List Value} (s : Sat B w L) (h : pts b o vs ∈ L) {i : Nat} {v : Value} (hi : vs[i]? = some v) : B ≤ b ∧ w.cell? ⟨b, o + i, none⟩ = some v ∧ w.frozen? ⟨b, o + i, none⟩ = false := by
  obtain ⟨L', hp⟩ := Pick.of_mem h
  exact (s.perm hp.perm).cell hi
/-! ### Stores -/
def scalar : Value → Bool
  | .agg _ => false
  | .tuple _ => false
  | _ => true
theorem below_store {w : World} {b o : Nat} (h : Below B W w) (hb : B ≤ b) (u : Value) : Below B W (w.setCell ⟨b, o, none⟩ u) := h.setCell hb u
theorem store_run {w : World} {p : Addr} {v u : Value} (hv : scalar v = true) (hc : w.cell? p = some u) (hf : w.frozen? p = false) : (store p v).run P w = .ok () (w.setCell p v) := by
  cases v <;> simp [scalar] at hv <;> simp [store, Sem.run, hc, hf]
/-- How many cells a variable of a type has. -/
theorem storeCells_run {b o o' : Nat} : ∀ (us : List Value) (j i : Nat) (vs : List Value) (w : World) (L : List SProp), o' + j = o + i → us.all scalar = true → i + us.length ≤ vs.length → Sat B w (pts b o vs :: L) → Below B W w → B ≤ w.heap.size →
    ∃ w', (storeCells ⟨b, o', none⟩ us j).run P w = .ok () w' ∧ Cls B W (pts b o (vs.take i ++ us ++ vs.drop (i + us.length)) :: L) w'
  | [], j, i, vs, w, L, _, _, _, s, hb, hl => ⟨w, rfl, hb, hl, by simpa using s⟩
  | u :: us, j, i, vs, w, L, ho, ha, hi, s, hb, hl => by
    simp only [List.all_cons, Bool.and_eq_true] at ha
    simp only [List.length_cons] at hi
    have hlt : i < vs.length := by omega
    obtain ⟨h1, h2, h3⟩ := s.cell (List.getElem?_eq_getElem hlt)
    obtain ⟨w', hr, hc⟩ := storeCells_run (o' := o') us (j + 1) (i + 1) (vs.set i u) _ L (by omega) ha.2 (by rw [List.length_set]; omega) (s.store hlt u) (below_store hb h1 u) (by simpa using hl)
    refine ⟨w', ?_, ?_⟩
    · unfold storeCells
      simp only [addr_plus, ho]
      rw [run_bind_ok (store_run ha.1 h2 h3)]
      exact hr
    · have e : vs.take i ++ u :: us ++ vs.drop (i + (u :: us).length) = (vs.set i u).take (i + 1) ++ us ++ (vs.set i u).drop (i + 1 + us.length) := by
        have e1 : (vs.set i u).take (i + 1) = vs.take i ++ [u] := by
          rw [List.take_succ_eq_append_getElem (by simpa using hlt), List.take_set_of_le (Nat.le_refl _)]
          simp
        have e2 : (vs.set i u).drop (i + 1 + us.length) = vs.drop (i + (u :: us).length) := by
          rw [List.drop_set_of_lt (by omega)]; congr 1; simp; omega
        rw [e1, e2]; simp
      rw [e]; exact hc
theorem sizeOf_run' {w : World} {k : Nat} (hT : P.cellsOf T = k) (hk : 0 < k) : (sizeOf T).run P w = .ok k w := by
  unfold Program.cellsOf at hT
  cases hin : P.info? T with
  | none => rw [hin] at hT; simp at hT; omega
  | some inf =>
    rw [hin] at hT; simp at hT; subst hT
    unfold sizeOf
    rw [run_bind_ok (info_run hin)]; rfl
theorem storeVar_run {b o o' i k : Nat} {vs us : List Value} {w : World} {L : List SProp} (s : Sat B w (pts b o vs :: L)) (hb : Below B W w) (hl : B ≤ w.heap.size) (ho : o + i = o')
    (hT : P.cellsOf T = k) (hk : us.length = k) (hk0 : 0 < k) (hv : v.cells.toList = us) (ha : us.all scalar = true) (hi : i + k ≤ vs.length) :
    ∃ w', (storeVar T ⟨b, o', none⟩ v).run P w = .ok () w' ∧ Cls B W (pts b o (vs.take i ++ us ++ vs.drop (i + k)) :: L) w' := by
  obtain ⟨w', hr, hc⟩ := storeCells_run (P := P) (W := W) (o' := o') us 0 i vs w L (by omega) ha (by omega) s hb hl
  subst hk
  refine ⟨w', ?_, hc⟩
  unfold storeVar
  rw [run_bind_ok (sizeOf_run' hT hk0)]
  have : ¬ v.cells.size ≠ us.length := by rw [← hv]; simp
  simp only [this, if_false]
  rw [hv]
  exact hr
/-! ### Fresh memory -/
theorem below_fresh {w : World} (h : Below B W w) (hl : B ≤ w.heap.size) (o : Obj) : Below B W (w.alloc o) := h.alloc hl o
theorem newVar_run {w : World} (T : TypeId) (v : Value) : (newVar T v).run P w = .ok ⟨w.heap.size, 0, none⟩ (w.alloc (.cells v.cells T)) := by
  unfold newVar newRow newObj
  simp [Sem.run, World.alloc_eq]
def zeroOf (P : Program) (T : TypeId) : Option Value := (P.info? T).bind (·.zero)
theorem zero_run {w : World} (h : zeroOf P T = some v) : (zeroValue T).run P w = .ok v w := by
  unfold zeroOf at h
  cases hi : P.info? T with
  | none => rw [hi] at h; cases h
  | some i =>
    rw [hi] at h
    unfold zeroValue
    rw [run_bind_ok (info_run hi)]
    simp only [Option.bind_some] at h
    rw [h]; rfl
/-! ### Calls -/
def callB (P : Program) (f : FuncId) : Bool := match P.funcs[f]? with
  | some fn => fn.body.isSome && !(fn.name == "runtime.NumGoroutine")
  | none => false
theorem call_run {w : World} {f : FuncId} (h : callB P f = true) (args : Array Value) : (callFunc f args).run P w = .ok (.enter f args) w := by
  unfold callB at h
  cases hf : P.funcs[f]? with
  | none => rw [hf] at h; cases h
  | some fn =>
    rw [hf] at h
    simp only [Bool.and_eq_true, Bool.not_eq_true'] at h
    unfold callFunc
    rw [run_bind_ok (a := P) (w' := w) (by simp [program, Sem.run])]
    simp only [hf, h.2]
    have : fn.body.isNone = false := by cases hb : fn.body <;> simp_all
    simp [this]
theorem op_call {a : Act} {w : World} {f : FuncId} {xs : Array Operand} {ts : Array TypeId} {vs : List Value} {fst cap : Array Value} (hf : a.eval x = .func (.func f) fst cap) (hc : callB P f = true) (hxs : xs.toList.map a.eval = vs) :
    (execOp a.eval ⟨d, .call ⟨.value x, xs, ts⟩, ty, ps, af, g⟩).run P w = .ok (.enter f (fst ++ vs.toArray ++ cap)) w := by
  have e : xs.map a.eval = vs.toArray := by apply Array.ext'; rw [Array.toList_map, hxs]
  simp only [execOp, resolve, e, hf, Deferred.ofValue]
  rw [run_bind_ok (a := ({ target := .fn (.func f) cap, args := fst ++ vs.toArray } : Deferred)) (w' := w) rfl]
  simp only [invoke]
  rw [call_run hc]
/-! ### Ways out -/
inductive ResR (P : Program) (R : RList) (L : List SProp) : List ResultVar → List Value → Prop where
  | nil : ResR P R L [] []
  | cons {t : Nat} {v : Value} {rs : List ResultVar} {vs : List Value} (h : (t, v) ∈ R) (k : ResR P R L rs vs) : ResR P R L (.tmp t :: rs) (v :: vs)
  | cell {t b o : Nat} {T : TypeId} {us : List Value} {v : Value} {rs : List ResultVar} {vs : List Value} (h : (t, Value.pointer (some ⟨b, o, none⟩)) ∈ R) (hL : pts b o us ∈ L) (hT : aggSize P T = some none) (hi : us[0]? = some v) (k : ResR P R L rs vs) : ResR P R L (.cell t T :: rs) (v :: vs)
  | cellA {t b o m : Nat} {T : TypeId} {us ws : List Value} {rs : List ResultVar} {vs : List Value} (h : (t, Value.pointer (some ⟨b, o, none⟩)) ∈ R) (hL : pts b o us ∈ L) (hT : aggSize P T = some (some m)) (hi : us.take m = ws) (hm : ws.length = m) (k : ResR P R L rs vs) : ResR P R L (.cell t T :: rs) (.agg ws.toArray :: vs)
def tupled : List Value → Value
  | [v] => v
  | vs => .tuple vs.toArray
theorem loadVar_run {w : World} {b o : Nat} {k : Option Nat} {us : List Value} (ht : aggSize P T = some k) (hk : us.length = k.getD 1) (h : ∀ j u, us[j]? = some u → w.cell? ⟨b, o + j, none⟩ = some u)
    (hv : v = match k with | some _ => .agg us.toArray | none => us.headD undef) : (loadVar T ⟨b, o, none⟩).run P w = .ok v w := load_run ht hk h hv
theorem ResR.run {rs : List ResultVar} {vs : List Value} (h : ResR P R L rs vs) {a : Act} {w : World} (s : Sta n B W R L a w) {fn : Func} (hfn : fn.results.toList = rs) : (results fn a.tmps).run P w = .ok (tupled vs) w := by
  have key : ∀ (rs : List ResultVar) (vs : List Value), ResR P R L rs vs → (rs.mapM (m := Sem) fun | .tmp t => pure (a.tmps.getD t undef) | .cell ad t => do loadVar t (← asAddr (a.tmps.getD ad undef))).run P w = .ok vs w := by
    intro rs vs h
    induction h with
    | nil => rfl
    | cons h k ih =>
      rw [List.mapM_cons]
      have := s.regs.has _ h
      simp only at this
      rename_i t v rs vs
      rw [run_bind_ok (a := v) (w' := w) (by simp [Array.getD_eq_getD_getElem?, this, pure]), run_bind_ok ih]
      rfl
    | cell h hL hT hi k ih =>
      rw [List.mapM_cons]
      have := s.regs.has _ h
      simp only at this
      rename_i t b o T us v rs vs
      have hc := (sat_cell s.sat hL hi).2.1
      rw [run_bind_ok (a := v) (w' := w) (by
        simp only [Array.getD_eq_getD_getElem?, this, Option.getD_some]
        rw [run_bind_ok (a := (⟨b, o, none⟩ : Addr)) (w' := w) rfl]
        exact loadVar_run (us := [v]) hT rfl (fun j u hj => by
          cases j with
          | zero => simp at hj; subst hj; exact hc
          | succ j => simp at hj) rfl), run_bind_ok ih]
      rfl
    | cellA h hL hT hi hm k ih =>
      rw [List.mapM_cons]
      have := s.regs.has _ h
      simp only at this
      rename_i t b o m T us ws rs vs
      rw [run_bind_ok (a := Value.agg ws.toArray) (w' := w) (by
        simp only [Array.getD_eq_getD_getElem?, this, Option.getD_some]
        rw [run_bind_ok (a := (⟨b, o, none⟩ : Addr)) (w' := w) rfl]
        exact loadVar_run (us := ws) hT hm (fun j u hj => by
          refine (sat_cell s.sat hL (i := j) ?_).2.1
          rw [← hi, List.getElem?_take] at hj
          split at hj
          · exact hj
          · cases hj) rfl), run_bind_ok ih]
      rfl
  unfold results
  have e : fn.results = rs.toArray := by rw [← hfn]
  rw [e]
  simp only [List.mapM_toArray]
  rw [run_bind_ok (a := vs.toArray) (w' := w) (by
    rw [map_eq_pure_bind]
    exact run_bind_ok (key rs vs h))]
  match vs with
  | [] => rfl
  | [v] => rfl
  | _ :: _ :: _ => rfl
end
end
section
open Go Go.RowKit
section
variable {r : Option Nat} {P : Program} {Q : Exit → Act → World → Prop} {n B : Nat} {W : World} {R R' R0 : RList} {L L' M : List SProp} {v u : Value} {x y z : Operand} {o : Oper} {ops : Array Oper}
  {d : Option Tmp} {ty : TypeId} {ps : String} {af : Array Edge} {g : Option (Nat × Bool)} {T T' : TypeId}
/-- What the registers hold is said anew, and less of it. -/
inductive Less : RList → RList → Prop where
  | nil {R : RList} : Less R []
  | cons {R R' : RList} {t : Nat} {v u : Value} (h : (t, v) ∈ R) (e : v = u) (k : Less R R') : Less R ((t, u) :: R')
theorem Less.regs {R R' : RList} (h : Less R R') {a : Act} (r : Regs n a R) : Regs n a R' := by
  induction h with
  | nil => exact ⟨r.size, r.defers, fun p hp => by cases hp⟩
  | cons hm e _ ih =>
    have r' := ih
    refine ⟨r.size, r.defers, fun p hp => ?_⟩
    rcases List.mem_cons.1 hp with h1 | h1
    · subst h1; subst e; exact r.has _ hm
    · exact r'.has p h1
/-- The assertions are said anew. -/
def Ent (L L' : List SProp) : Prop := ∀ h, star L h → star L' h
theorem Ent.sat {w : World} (h : Ent L L') (s : Sat B w L) : Sat B w L' := s.imp h
theorem Ent.refl : Ent L L := fun _ h => h
theorem Ent.trans {L1 L2 L3 : List SProp} (h : Ent L1 L2) (k : Ent L2 L3) : Ent L1 L3 := fun x s => k x (h x s)
theorem Ent.perm (p : L.Perm L') : Ent L L' := fun _ => star_perm p
theorem Ent.drop {A : SProp} : Ent (A :: L) L := fun h s => by
  obtain ⟨k1, k2, a, e, _, hL⟩ := s
  have : star ([] ++ L) h := star_append.2 ⟨k1, k2, a, e, trivial, hL⟩
  exact this
theorem Ent.cons {A A' : SProp} (f : ∀ h, A h → A' h) (h : Ent L L') : Ent (A :: L) (A' :: L') := fun x s => star_tail h (star_head f s)
/-- An assertion with an unknown in it is opened. -/
def exS {X : Type} (A : X → SProp) : SProp := fun h => ∃ x, A x h
theorem sat_ex {X : Type} {A : X → SProp} {w : World} (h : Sat B w (exS A :: L)) : ∃ x, Sat B w (A x :: L) := by
  obtain ⟨h, H, k1, k2, a, e, ⟨x, hA⟩, hL⟩ := h
  exact ⟨x, h, H, k1, k2, a, e, hA, hL⟩
theorem wpIn_loop_ghost {F : Fence} {k : Nat} {a : Act} {w : World} {c : Code} (I : Nat → Act → World → Prop) (n₀ : Nat) (h₀ : I n₀ a w)
    (round : ∀ m a w, I m a w → c.wpIn F k P (Exit.then (fun a' w' => ∃ m', m' < m ∧ I m' a' w') Q) a w) : (Code.loop c).wpIn F k P Q a w := by
  refine wpIn_loop (fun a w => ∃ m, I m a w) (fun a w => leastOf (fun m => I m a w)) ⟨n₀, h₀⟩ ?_
  intro a w hI
  refine wpIn_mono (round _ a w (leastOf_spec hI).1) ?_
  intro e a' w' hq
  cases e with
  | normal =>
    obtain ⟨m', hlt, hI'⟩ := hq
    exact show (∃ m, I m a' w') ∧ leastOf (fun m => I m a' w') < leastOf (fun m => I m a w) from ⟨⟨m', hI'⟩, Nat.lt_of_le_of_lt ((leastOf_spec ⟨m', hI'⟩).2 m' hI') hlt⟩
  | exit id => exact hq
  | goto l => exact hq
  | ret => exact hq
  | panic ch => exact hq
  | outgrown => exact hq
/-! ### Aggregates -/
inductive EvalPs (R : RList) : List (Nat × Operand) → List (Nat × Value) → Prop where
  | nil : EvalPs R [] []
  | cons {i : Nat} {x : Operand} {v : Value} {xs : List (Nat × Operand)} {vs : List (Nat × Value)} (h : EvalR R x v) (t : EvalPs R xs vs) : EvalPs R ((i, x) :: xs) ((i, v) :: vs)
theorem EvalPs.eval {a : Act} {xs : List (Nat × Operand)} {vs : List (Nat × Value)} (h : EvalPs R xs vs) (r : Regs n a R) : (xs.map fun (i, x) => (i, a.eval x)) = vs := by
  induction h with
  | nil => rfl
  | cons h _ ih => rw [List.map_cons, ih]; simp only [h.eval r]
end
end
section
open Go Go.RowKit
section
variable {α : Type _}
end
/-! ### Numbers in their bounds -/
theorem w64 {a : Int} (h1 : -9223372036854775808 ≤ a) (h2 : a ≤ 9223372036854775807) : IntKind.i64.wrap a = a := IntWalk.i64_in _ ⟨h1, h2⟩
theorem wu64 {a : Int} (h1 : 0 ≤ a) (h2 : a ≤ 18446744073709551615) : IntKind.u64.wrap a = a := by
  simp only [IntKind.wrap, IntKind.bits, IntKind.signed]; simp; omega
section
variable {P : Program} {n B : Nat} {W : World} {R : RList} {L M : List SProp} {v : Value} {x : Operand} {d : Option Tmp} {ty : TypeId} {ps : String} {af : Array Edge} {g : Option (Nat × Bool)}
end
end
section
open Go Go.RowKit
/-- A slice of the call's own: its elements' cells, and room behind them. -/
def rowS (A : Option Addr) (n cap sz : Nat) (vs : List Value) : SProp := fun h =>
  vs.length = n * sz ∧ n ≤ cap ∧ cap ≤ maxLen ∧ ((A = none ∧ cap = 0) ∨ ∃ b o spare, A = some ⟨b, o, none⟩ ∧ spare.length = (cap - n) * sz ∧ pts b o (vs ++ spare) h)
theorem rowS_nil (sz : Nat) (h : Hp) : rowS none 0 0 sz [] h := ⟨by simp, by omega, by unfold maxLen; omega, .inl ⟨rfl, rfl⟩⟩
theorem ent_nil (sz : Nat) {L : List SProp} : Ent L (rowS none 0 0 sz [] :: L) := fun h s => ⟨fun _ _ => none, h, fun _ _ => .inl rfl, by funext x y; rfl, rowS_nil sz _, s⟩
theorem rowS_of_pts {b o n sz : Nat} {vs : List Value} (hl : vs.length = n * sz) (hn : n ≤ maxLen) (h : Hp) (p : pts b o vs h) : rowS (some ⟨b, o, none⟩) n n sz vs h :=
  ⟨hl, Nat.le_refl _, hn, .inr ⟨b, o, [], rfl, by simp, by simpa using p⟩⟩
section
variable {r : Option Nat} {P : Program} {Q : Exit → Act → World → Prop} {n B : Nat} {W : World} {R R' R0 : RList} {L L' M : List SProp} {v u : Value} {x y z : Operand} {o : Oper} {ops : Array Oper}
  {d : Option Tmp} {ty : TypeId} {ps : String} {af : Array Edge} {g : Option (Nat × Bool)} {T T' : TypeId}
theorem sat_rowS {A : Option Addr} {m cap sz : Nat} {vs : List Value} {w : World} (s : Sat B w L) (h : rowS A m cap sz vs ∈ L) :
    vs.length = m * sz ∧ m ≤ cap ∧ cap ≤ maxLen ∧ ((A = none ∧ cap = 0) ∨ ∃ b o, A = some ⟨b, o, none⟩ ∧ ∀ i v, vs[i]? = some v → w.cell? ⟨b, o + i, none⟩ = some v) := by
  obtain ⟨L', hp⟩ := Pick.of_mem h
  obtain ⟨h, H, k1, k2, a, e, ⟨h1, h2, h3, h4⟩, hL⟩ := s.perm hp.perm
  refine ⟨h1, h2, h3, h4.imp id ?_⟩
  rintro ⟨b, o, spare, rfl, _, hp⟩
  refine ⟨b, o, rfl, fun i v hi => ?_⟩
  have hv : (vs ++ spare)[i]? = some v := by
    rw [List.getElem?_append_left (by
      rcases Nat.lt_or_ge i vs.length with h1 | h1
      · exact h1
      · rw [List.getElem?_eq_none h1] at hi; cases hi)]
    exact hi
  exact (H b (o + i) (.cell v) (by rw [e]; unfold join; rw [hp i v hv])).2.1
/-! ### Making -/
def infoB (P : Program) (E : TypeId) (z : Value) (sz by_ : Nat) : Prop := ∃ i, P.info? E = some i ∧ i.zero = some z ∧ i.size = sz ∧ i.bytes = by_
theorem made_one (v : Value) (n : Nat) : (madeCells #[v] n).toList = List.replicate n v := by
  apply List.ext_getElem
  · simp [madeCells]
  · intro i h1 h2
    simp [madeCells, Nat.mod_one]
theorem ot_make {E : TypeId} {k k' : IntKind} {a : Int} {z : Value} {by_ : Nat} (hx : EvalR R x (.int k a)) (hy : EvalR R y (.int k' a)) (hT : P.underlying T = some (.slice E)) (hI : infoB P E z 1 by_) (hz : z.cells = #[z]) (h0 : 0 ≤ a) (h1 : a ≤ 1099511627776) (hby : by_ ≤ 128) :
    OT P n B W ⟨d, .makeSlice T x y, ty, ps, af, g⟩ R L (X := Nat) (fun b => .slice (some ⟨b, 0, none⟩) a.toNat a.toNat) (fun b => pts b 0 (List.replicate a.toNat z) :: L) := fun ac w s => by
  obtain ⟨i, hi, hz1, hz2, hz3⟩ := hI
  have hr := run_make (P := P) w T E i z hT hi hz1 k k' a a h0 (Int.le_refl _) (by
    rw [hz3]
    have : (by_ : Int) * a ≤ 128 * a := Int.mul_le_mul_of_nonneg_right (by omega) h0
    omega) (by omega)
  have : (execOp ac.eval ⟨d, .makeSlice T x y, ty, ps, af, g⟩).run P w = .ok (.value (.slice (some ⟨w.heap.size, 0, none⟩) a.toNat a.toNat)) (w.alloc (.cells (madeCells z.cells (a.toNat * i.size)) E)) := by
    simp only [execOp, hx.eval s.regs, hy.eval s.regs]
    rw [run_bind_ok hr]; rfl
  rw [this]
  refine ⟨w.heap.size, rfl, below_fresh s.below s.lo _, by simpa using Nat.le_succ_of_le s.lo, ?_⟩
  have e : (madeCells z.cells (a.toNat * i.size)).toList = List.replicate a.toNat z := by rw [hz2, hz, Nat.mul_one, made_one]
  show Sat B _ (pts w.heap.size 0 (List.replicate a.toNat z) :: L)
  rw [← e]
  exact s.sat.fresh s.lo
/-! ### append -/
theorem append_sat {w : World} {A : Option Addr} {m cap sz k c by_ : Nat} {vs us : List Value} {b o : Nat} {E : TypeId} {z : Value} (hT : P.underlying T = some (.slice E)) (hI : infoB P E z sz by_) (hz : z.cells.size = sz) (hsz : 0 < sz)
    (s : Sat B w (rowS A m cap sz vs :: pts b o us :: L)) (hb : Below B W w) (hl : B ≤ w.heap.size) (hu : us.length = k * sz) (ha : us.all scalar = true) (hk : 0 < k) (hlen : m + k ≤ maxLen) (hby : (m + k) * by_ ≤ 140737488355328) :
    ∃ A' cap' w', (Builtin.append_ #[T, T] ty #[.slice A m cap, .slice (some ⟨b, o, none⟩) k c]).run P w = .ok (.slice A' (m + k) cap') w' ∧ Cls B W (rowS A' (m + k) cap' sz (vs ++ us) :: pts b o us :: L) w' := by
  obtain ⟨i, hi, hz1, rfl, rfl⟩ := hI
  have hnews : ∀ j u, us[j]? = some u → w.cell? ((⟨b, o, none⟩ : Addr).add j) = some u := fun j u hj => by
    rw [addr_plus]; exact (sat_cell s (List.mem_cons_of_mem _ (List.mem_cons_self ..)) hj).2.1
  obtain ⟨r1, r2, r3, r4⟩ := sat_rowS s (List.mem_cons_self ..)
  have hgc := grownCap_ge w (m + k) cap E
  have hgm := grownCap_le_maxLen w (m + k) cap E hlen
  have hul : us.length ≤ us.length := Nat.le_refl _
  have fresh : ∀ xs : List Value, xs.length = (m + k) * i.size → xs = vs ++ us → ∀ (zs : Array Value), zs.size = (grownCap w (m + k) cap E - (m + k)) * i.size →
      Cls B W (rowS (some ⟨w.heap.size, 0, none⟩) (m + k) (grownCap w (m + k) cap E) i.size (vs ++ us) :: pts b o us :: L) (w.drew.alloc (.cells (xs.toArray ++ zs) E)) := by
    intro xs hxl hx zs hzl
    have s1 : Sat B w.drew (pts b o us :: L) := (s.drop).below ((Below.refl _ _).drew)
    have s2 := s1.fresh (cs := xs.toArray ++ zs) (T := E) hl
    refine ⟨below_fresh hb.drew hl _, by simpa using Nat.le_succ_of_le hl, ?_⟩
    refine s2.imp fun h => star_head fun h hp => ?_
    refine ⟨by rw [← hx]; exact hxl, hgc, hgm, .inr ⟨w.heap.size, 0, zs.toList, rfl, by simpa using hzl, ?_⟩⟩
    have e : (xs.toArray ++ zs).toList = vs ++ us ++ zs.toList := by rw [hx]; simp
    rw [e] at hp; exact hp
  have hzc : ∀ q, (Builtin.zeroCells z.cells q).size = q * i.size := fun q => by rw [size_zeroCells, hz]
  rcases r4 with ⟨rfl, rfl⟩ | ⟨b', o', rfl, hcells⟩
  · obtain rfl : m = 0 := by omega
    have hv : vs = [] := List.length_eq_zero_iff.1 (by rw [r1]; simp)
    subst hv
    rw [Nat.zero_add] at *
    have hr := run_append_nil (P := P) w T ty E i z hT hi hz1 ⟨b, o, none⟩ k c us hu hnews hk (by unfold maxLen at hlen; omega) (by omega)
    exact ⟨_, _, _, hr, fresh us hu (by simp) _ (hzc _)⟩
  · by_cases hroom : m + k ≤ cap
    · obtain ⟨h, H, k1, k2, ap, e, ⟨_, _, _, h4⟩, hL⟩ := s
      rcases h4 with ⟨h4, _⟩ | ⟨b2, o2, spare, he, hsp, hp⟩
      · cases h4
      · obtain ⟨rfl, rfl⟩ : b' = b2 ∧ o' = o2 := by
          have := Option.some.inj he; exact ⟨congrArg Addr.block this, congrArg Addr.off this⟩
        have s' : Sat B w (pts b' o' (vs ++ spare) :: pts b o us :: L) := ⟨h, H, k1, k2, ap, e, hp, hL⟩
        have hfit : (m + k) * i.size ≤ cap * i.size := Nat.mul_le_mul_right _ hroom
        have hsp' : spare.length + m * i.size = cap * i.size := by rw [hsp, ← Nat.add_mul, Nat.sub_add_cancel r2]
        rw [Nat.add_mul] at hfit
        obtain ⟨w', hst, hc⟩ := storeCells_run (P := P) (W := W) (b := b') (o := o') (o' := o' + m * i.size) us 0 (m * i.size) (vs ++ spare) w (pts b o us :: L) (by omega) ha (by simp; omega) s' hb hl
        have hf := run_firstCells_some (P := P) w i.size k ⟨b, o, none⟩ k c us hu hnews
        refine ⟨some ⟨b', o', none⟩, cap, w', ?_, hc.1, hc.2.1, ?_⟩
        · simp [Builtin.append_, und_run hT, sizeOf, info_run hi, Builtin.lenOf, hroom, hf, addr_plus, hst]
        · refine hc.2.2.imp fun h => star_head fun h hp => ?_
          have e1 : List.take (m * i.size) (vs ++ spare) ++ us ++ List.drop (m * i.size + us.length) (vs ++ spare) = vs ++ us ++ spare.drop us.length := by
            rw [← r1, List.take_left, List.drop_append]
            simp
          rw [e1] at hp
          refine ⟨by simp [r1, hu, Nat.add_mul], hroom, r3, .inr ⟨b', o', spare.drop us.length, rfl, ?_, hp⟩⟩
          rw [List.length_drop, hu, Nat.sub_mul, Nat.add_mul]
          omega
    · have hr := run_append_grow (P := P) w T ty E i z hT hi hz1 ⟨b', o', none⟩ m cap vs r1 (fun j v hj => by rw [addr_plus]; exact hcells j v hj) ⟨b, o, none⟩ k c us hu hnews (by omega) (by unfold maxLen at hlen; omega) (growslice_fits (by omega) hby)
      refine ⟨_, _, _, hr, ?_⟩
      have := fresh (vs ++ us) (by simp [r1, hu, Nat.add_mul]) rfl _ (hzc (grownCap w (m + k) cap E - (m + k)))
      simpa using this
/-! ### A piece of a slice -/
theorem op_slice_full {A : Option Addr} {len cap l h' sz : Nat} {lo hi : Option Operand} {E : TypeId} (hx : EvalR R x (.slice A len cap)) (hT : P.underlying T = some (.slice E)) (hsz : P.cellsOf E = sz) (hs0 : 0 < sz)
    (hlo : match lo with | some o => ∃ k, EvalR R o (.int k (l : Int)) | none => l = 0) (hhi : match hi with | some o => ∃ k, EvalR R o (.int k (h' : Int)) | none => h' = len) (h1 : l ≤ h') (h2 : h' ≤ cap) {A' : Option Addr} (hA : (if cap = l then A else A.map fun a => a.add (l * sz)) = A') :
    OP P n ⟨d, .slice T x lo hi none, ty, ps, af, g⟩ R (.slice A' (h' - l) (cap - l)) := fun a w s => by
  subst hA
  have e1 : (Instr.sliceBounds true len cap (lo.map a.eval) (hi.map a.eval) none).run P w = .ok (l, h', cap) w := by
    unfold Instr.sliceBounds
    cases hi with
    | none =>
      simp only at hhi; subst hhi
      cases lo with
      | none => simp only at hlo; subst hlo; simp
      | some o =>
        obtain ⟨k, hk⟩ := hlo
        have : (0 : Int) ≤ (l : Int) ∧ (l : Int) ≤ (h' : Int) := by omega
        simp [hk.eval s, Instr.sliceBound, asIntOf, this, h1]
    | some q =>
      obtain ⟨k, hk⟩ := hhi
      cases lo with
      | none =>
        simp only at hlo; subst hlo
        simp [hk.eval s, Instr.sliceBound, asIntOf, h2]
      | some o =>
        obtain ⟨k', hk'⟩ := hlo
        simp [hk.eval s, hk'.eval s, Instr.sliceBound, asIntOf, h2, h1]
  simp only [execOp, hx.eval s]
  have e2 : (Instr.sliceAt T (.slice A len cap) (lo.map a.eval) (hi.map a.eval) (none.map a.eval)).run P w = .ok (.slice (if cap = l then A else A.map fun a => a.add (l * sz)) (h' - l) (cap - l)) w := by
    unfold Instr.sliceAt
    rw [run_bind_ok (und_run hT)]
    simp only [Instr.slice]
    rw [run_bind_ok (und_run hT)]
    simp only [Option.map_none]
    rw [run_bind_ok e1]
    simp only
    rw [run_bind_ok (sizeOf_run' hsz hs0)]
    rfl
  rw [run_bind_ok e2]
  rfl
theorem op_slice_h {A : Option Addr} {len cap h' sz : Nat} {hi : Operand} {k' : IntKind} {E : TypeId} (hx : EvalR R x (.slice A len cap)) (hT : P.underlying T = some (.slice E)) (hsz : P.cellsOf E = sz) (hs0 : 0 < sz)
    (hhi : EvalR R hi (.int k' (h' : Int))) (h2 : h' ≤ cap) : OP P n ⟨d, .slice T x none (some hi) none, ty, ps, af, g⟩ R (.slice A (h' - 0) (cap - 0)) :=
  op_slice_full (lo := none) (hi := some hi) (l := 0) hx hT hsz hs0 rfl ⟨k', hhi⟩ (Nat.zero_le _) h2 (by
    split
    · rfl
    · cases A with
      | none => rfl
      | some a => simp [Addr.add])
theorem op_slice_l {A : Option Addr} {len cap l sz : Nat} {lo : Operand} {k : IntKind} {E : TypeId} (hx : EvalR R x (.slice A len cap)) (hT : P.underlying T = some (.slice E)) (hsz : P.cellsOf E = sz) (hs0 : 0 < sz)
    (hlo : EvalR R lo (.int k (l : Int))) (h1 : l ≤ len) (h2 : len ≤ cap) {A' : Option Addr} (hA : (if cap = l then A else A.map fun a => a.add (l * sz)) = A') :
    OP P n ⟨d, .slice T x (some lo) none none, ty, ps, af, g⟩ R (.slice A' (len - l) (cap - l)) := op_slice_full (lo := some lo) (hi := none) hx hT hsz hs0 ⟨k, hlo⟩ rfl h1 h2 hA
/-! ### Loops with three unknowns: a number, an address, a room -/
/-! ### Rows of numbers -/
end
end
end Go.Proofs.YtpbkelpokpglaaaGreat
