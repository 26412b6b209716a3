/- Loads, stores, fresh memory, calls. No program occurs here. -/
import Derived.Test.YtkfkiaieeiodnaaSl3
namespace Go.Proofs.Ytkfkiaieeiodnaa
open Go Go.RowKit

section
variable {P : Program} {n B : Nat} {W : World} {R R' : RList} {L L' M : List SProp} {v u : Value} {x y z : Operand}
  {d : Option Tmp} {ty : TypeId} {ps : String} {af : Array Edge} {g : Option (Nat × Bool)} {T T' : TypeId}
theorem sat_cell {w : World} {b o : Nat} {vs : List Value} (s : Sat B w L) (h : pts b o vs ∈ L) {i : Nat} {v : Value} (hi : vs[i]? = some v) : B ≤ b ∧ w.cell? ⟨b, o + i, none⟩ = some v ∧ w.frozen? ⟨b, o + i, none⟩ = false := by
  obtain ⟨L', hp⟩ := Pick.of_mem h
  exact (s.perm hp.perm).cell hi
/-- A cell of the call's own. -/
theorem oq_load {b o o' i : Nat} {vs : List Value} (hx : EvalR R x (.pointer (some ⟨b, o', none⟩))) (hL : pts b o vs ∈ L) (ho : o + i = o') (hi : vs[i]? = some v) (hT : aggSize P T = some none) :
    OQ P n B W ⟨d, .load T x, ty, ps, af, g⟩ R L v := oq_run fun a w s => by
  subst ho
  have h1 := sat_cell s.sat hL hi
  simp only [execOp, hx.eval s.regs]
  rw [run_bind_ok (load_run (us := [v]) hT rfl (fun j u hj => by
    cases j with
    | zero => simp at hj; subst hj; exact h1.2.1
    | succ j => simp at hj) rfl)]
  rfl
/-- Several cells of the call's own. -/
theorem oq_loadA {b o o' i k : Nat} {vs us : List Value} (hx : EvalR R x (.pointer (some ⟨b, o', none⟩))) (hL : pts b o vs ∈ L) (ho : o + i = o') (hT : aggSize P T = some (some k)) (hk : us.length = k) (hi : (vs.drop i).take k = us) :
    OQ P n B W ⟨d, .load T x, ty, ps, af, g⟩ R L (.agg us.toArray) := oq_run fun a w s => by
  subst ho
  simp only [execOp, hx.eval s.regs]
  rw [run_bind_ok (load_run (us := us) hT hk (fun j u hj => by
    have hj' : vs[i + j]? = some u := by
      rw [← hi, List.getElem?_take] at hj
      split at hj
      · simpa using hj
      · cases hj
    have := (sat_cell s.sat hL hj').2.1
    rwa [← Nat.add_assoc] at this) rfl)]
  rfl
/-- A cell that came in. -/
theorem oq_loadW {b o : Nat} (hx : EvalR R x (.pointer (some ⟨b, o, none⟩))) (hW : W.cell? ⟨b, o, none⟩ = some v) (hb : b < B) (hT : aggSize P T = some none) :
    OQ P n B W ⟨d, .load T x, ty, ps, af, g⟩ R L v := oq_run fun a w s => by
  have h1 := (s.below.cell (p := ⟨b, o, none⟩) hb).trans hW
  simp only [execOp, hx.eval s.regs]
  rw [run_bind_ok (load_run (us := [v]) hT rfl (fun j u hj => by
    cases j with
    | zero => simp at hj; subst hj; exact h1
    | succ j => simp at hj) rfl)]
  rfl
theorem oq_loadWA {b o k : Nat} {us : List Value} (hx : EvalR R x (.pointer (some ⟨b, o, none⟩))) (hW : ∀ j u, us[j]? = some u → W.cell? ⟨b, o + j, none⟩ = some u) (hb : b < B) (hT : aggSize P T = some (some k)) (hk : us.length = k) :
    OQ P n B W ⟨d, .load T x, ty, ps, af, g⟩ R L (.agg us.toArray) := oq_run fun a w s => by
  simp only [execOp, hx.eval s.regs]
  rw [run_bind_ok (load_run (us := us) hT hk (fun j u hj => (s.below.cell (p := ⟨b, o + j, none⟩) hb).trans (hW j u hj)) rfl)]
  rfl

/-! ### Stores -/
def scalar : Value → Bool
  | .agg _ => false
  | .tuple _ => false
  | _ => true
theorem below_store {w : World} {b o : Nat} (h : Below B W w) (hb : B ≤ b) (u : Value) : Below B W (w.setCell ⟨b, o, none⟩ u) := h.setCell hb u
theorem store_run {w : World} {p : Addr} {v u : Value} (hv : scalar v = true) (hc : w.cell? p = some u) (hf : w.frozen? p = false) : (store p v).run P w = .ok () (w.setCell p v) := by
  cases v <;> simp [scalar] at hv <;> simp [store, Sem.run, hc, hf]
/-- How many cells a variable of a type has. -/
theorem storeCells_run {b o o' : Nat} : ∀ (us : List Value) (j i : Nat) (vs : List Value) (w : World) (L : List SProp), o' + j = o + i → us.all scalar = true → i + us.length ≤ vs.length → Sat B w (pts b o vs :: L) → Below B W w → B ≤ w.heap.size →
    ∃ w', (storeCells ⟨b, o', none⟩ us j).run P w = .ok () w' ∧ Cls B W (pts b o (vs.take i ++ us ++ vs.drop (i + us.length)) :: L) w'
  | [], j, i, vs, w, L, _, _, _, s, hb, hl => ⟨w, rfl, hb, hl, by simpa using s⟩
  | u :: us, j, i, vs, w, L, ho, ha, hi, s, hb, hl => by
    simp only [List.all_cons, Bool.and_eq_true] at ha
    simp only [List.length_cons] at hi
    have hlt : i < vs.length := by omega
    obtain ⟨h1, h2, h3⟩ := s.cell (List.getElem?_eq_getElem hlt)
    obtain ⟨w', hr, hc⟩ := storeCells_run (o' := o') us (j + 1) (i + 1) (vs.set i u) _ L (by omega) ha.2 (by rw [List.length_set]; omega) (s.store hlt u) (below_store hb h1 u) (by simpa using hl)
    refine ⟨w', ?_, ?_⟩
    · unfold storeCells
      simp only [addr_plus, ho]
      rw [run_bind_ok (store_run ha.1 h2 h3)]
      exact hr
    · have e : vs.take i ++ u :: us ++ vs.drop (i + (u :: us).length) = (vs.set i u).take (i + 1) ++ us ++ (vs.set i u).drop (i + 1 + us.length) := by
        have e1 : (vs.set i u).take (i + 1) = vs.take i ++ [u] := by
          rw [List.take_succ_eq_append_getElem (by simpa using hlt), List.take_set_of_le (Nat.le_refl _)]
          simp
        have e2 : (vs.set i u).drop (i + 1 + us.length) = vs.drop (i + (u :: us).length) := by
          rw [List.drop_set_of_lt (by omega)]; congr 1; simp; omega
        rw [e1, e2]; simp
      rw [e]; exact hc
theorem sizeOf_run' {w : World} {k : Nat} (hT : P.cellsOf T = k) (hk : 0 < k) : (sizeOf T).run P w = .ok k w := by
  unfold Program.cellsOf at hT
  cases hin : P.info? T with
  | none => rw [hin] at hT; simp at hT; omega
  | some inf =>
    rw [hin] at hT; simp at hT; subst hT
    unfold sizeOf
    rw [run_bind_ok (info_run hin)]; rfl
theorem storeVar_run {b o o' i k : Nat} {vs us : List Value} {w : World} {L : List SProp} (s : Sat B w (pts b o vs :: L)) (hb : Below B W w) (hl : B ≤ w.heap.size) (ho : o + i = o')
    (hT : P.cellsOf T = k) (hk : us.length = k) (hk0 : 0 < k) (hv : v.cells.toList = us) (ha : us.all scalar = true) (hi : i + k ≤ vs.length) :
    ∃ w', (storeVar T ⟨b, o', none⟩ v).run P w = .ok () w' ∧ Cls B W (pts b o (vs.take i ++ us ++ vs.drop (i + k)) :: L) w' := by
  obtain ⟨w', hr, hc⟩ := storeCells_run (P := P) (W := W) (o' := o') us 0 i vs w L (by omega) ha (by omega) s hb hl
  subst hk
  refine ⟨w', ?_, hc⟩
  unfold storeVar
  rw [run_bind_ok (sizeOf_run' hT hk0)]
  have : ¬ v.cells.size ≠ us.length := by rw [← hv]; simp
  simp only [this, if_false]
  rw [hv]
  exact hr
theorem ot_store {b o o' i k : Nat} {vs us ws : List Value} (hx : EvalR R x (.pointer (some ⟨b, o', none⟩))) (hy : EvalR R y v) (hL : Turn L (pts b o vs) (pts b o ws) L') (ho : o + i = o')
    (hT : P.cellsOf T = k) (hk : us.length = k) (hk0 : 0 < k) (hv : v.cells.toList = us) (ha : us.all scalar = true) (hi : i + k ≤ vs.length) (hw : vs.take i ++ us ++ vs.drop (i + k) = ws) :
    OT P n B W ⟨none, .store T x y, ty, ps, af, g⟩ R L (X := Unit) (fun _ => undef) (fun _ => L') := fun a w s => by
  obtain ⟨m, p1, p2⟩ := hL.perm
  obtain ⟨w', hr, h1, h2, h3⟩ := storeVar_run (P := P) (v := v) (W := W) (s.sat.perm p1) s.below s.lo ho hT hk hk0 hv ha hi
  rw [hw] at h3
  have : (execOp a.eval ⟨none, .store T x y, ty, ps, af, g⟩).run P w = .ok .skip w' := by
    simp only [execOp, hx.eval s.regs, hy.eval s.regs, Instr.storeAt, Instr.sureAddr]
    rw [run_bind_ok (a := ()) (w' := w') (by rw [run_bind_ok (a := (⟨b, o', none⟩ : Addr)) (w' := w) rfl]; exact hr)]
    rfl
  rw [this]
  exact ⟨(), rfl, h1, h2, h3.perm p2.symm⟩

/-! ### Fresh memory -/
theorem below_fresh {w : World} (h : Below B W w) (hl : B ≤ w.heap.size) (o : Obj) : Below B W (w.alloc o) := h.alloc hl o
theorem newVar_run {w : World} (T : TypeId) (v : Value) : (newVar T v).run P w = .ok ⟨w.heap.size, 0, none⟩ (w.alloc (.cells v.cells T)) := by
  unfold newVar newRow newObj
  simp [Sem.run, World.alloc_eq]
theorem ot_box (hx : EvalR R x v) {us : List Value} (hu : v.cells.toList = us) : OT P n B W ⟨d, .box T x, ty, ps, af, g⟩ R L (X := Nat) (fun b => .pointer (some ⟨b, 0, none⟩)) (fun b => pts b 0 us :: L) := fun a w s => by
  have : (execOp a.eval ⟨d, .box T x, ty, ps, af, g⟩).run P w = .ok (.value (.pointer (some ⟨w.heap.size, 0, none⟩))) (w.alloc (.cells v.cells T)) := by
    simp only [execOp, hx.eval s.regs, Instr.box]
    rw [run_bind_ok (a := Value.pointer (some ⟨w.heap.size, 0, none⟩)) (w' := w.alloc (.cells v.cells T)) (by rw [run_bind_ok (newVar_run T v)]; rfl)]
    rfl
  rw [this]
  refine ⟨w.heap.size, rfl, below_fresh s.below s.lo _, by simpa using Nat.le_succ_of_le s.lo, ?_⟩
  have := s.sat.fresh (cs := v.cells) (T := T) s.lo
  rwa [hu] at this
def zeroOf (P : Program) (T : TypeId) : Option Value := (P.info? T).bind (·.zero)
theorem zero_run {w : World} (h : zeroOf P T = some v) : (zeroValue T).run P w = .ok v w := by
  unfold zeroOf at h
  cases hi : P.info? T with
  | none => rw [hi] at h; cases h
  | some i =>
    rw [hi] at h
    unfold zeroValue
    rw [run_bind_ok (info_run hi)]
    simp only [Option.bind_some] at h
    rw [h]; rfl
theorem ot_alloc {us : List Value} (hz : zeroOf P T = some v) (hu : v.cells.toList = us) : OT P n B W ⟨d, .alloc T, ty, ps, af, g⟩ R L (X := Nat) (fun b => .pointer (some ⟨b, 0, none⟩)) (fun b => pts b 0 us :: L) := fun a w s => by
  have : (execOp a.eval ⟨d, .alloc T, ty, ps, af, g⟩).run P w = .ok (.value (.pointer (some ⟨w.heap.size, 0, none⟩))) (w.alloc (.cells v.cells T)) := by
    simp only [execOp, Instr.alloc]
    rw [run_bind_ok (a := Value.pointer (some ⟨w.heap.size, 0, none⟩)) (w' := w.alloc (.cells v.cells T)) (by rw [run_bind_ok (zero_run hz)]; exact run_bind_ok (newVar_run T v))]
    rfl
  rw [this]
  refine ⟨w.heap.size, rfl, below_fresh s.below s.lo _, by simpa using Nat.le_succ_of_le s.lo, ?_⟩
  have := s.sat.fresh (cs := v.cells) (T := T) s.lo
  rwa [hu] at this

/-! ### Calls -/
def callB (P : Program) (f : FuncId) : Bool := match P.funcs[f]? with
  | some fn => fn.body.isSome && !(fn.name == "runtime.NumGoroutine")
  | none => false
theorem call_run {w : World} {f : FuncId} (h : callB P f = true) (args : Array Value) : (callFunc f args).run P w = .ok (.enter f args) w := by
  unfold callB at h
  cases hf : P.funcs[f]? with
  | none => rw [hf] at h; cases h
  | some fn =>
    rw [hf] at h
    simp only [Bool.and_eq_true, Bool.not_eq_true'] at h
    unfold callFunc
    rw [run_bind_ok (a := P) (w' := w) (by simp [program, Sem.run])]
    simp only [hf, h.2]
    have : fn.body.isNone = false := by cases hb : fn.body <;> simp_all
    simp [this]
theorem op_call {a : Act} {w : World} {f : FuncId} {xs : Array Operand} {ts : Array TypeId} {vs : List Value} {fst cap : Array Value} (hf : a.eval x = .func (.func f) fst cap) (hc : callB P f = true) (hxs : xs.toList.map a.eval = vs) :
    (execOp a.eval ⟨d, .call ⟨.value x, xs, ts⟩, ty, ps, af, g⟩).run P w = .ok (.enter f (fst ++ vs.toArray ++ cap)) w := by
  have e : xs.map a.eval = vs.toArray := by apply Array.ext'; rw [Array.toList_map, hxs]
  simp only [execOp, resolve, e, hf, Deferred.ofValue]
  rw [run_bind_ok (a := ({ target := .fn (.func f) cap, args := fst ++ vs.toArray } : Deferred)) (w' := w) rfl]
  simp only [invoke]
  rw [call_run hc]
/-- A contract of a function that reads and makes memory of its own alone. -/
def Pure (P : Program) (f : FuncId) (args : Array Value) (B : Nat) (W : World) (L : List SProp) (v : Value) : Prop :=
  ∀ w, Cls B W L w → Calls P f args w fun e w' => e = .returned v ∧ Cls B W L w'
theorem oq_call {f : FuncId} {xs : Array Operand} {ts : Array TypeId} {vs : List Value} {fst cap : Array Value} (hf : EvalR R x (.func (.func f) fst cap)) (hc : callB P f = true) (hxs : EvalRs R xs.toList vs) (h : Pure P f (fst ++ vs.toArray ++ cap) B W L v) :
    OQ P n B W ⟨d, .call ⟨.value x, xs, ts⟩, ty, ps, af, g⟩ R L v := fun a w s => by
  unfold Oper.quietAt
  rw [op_call (hf.eval s.regs) hc (hxs.eval s.regs)]
  exact ⟨rfl, h w s.cls⟩
/-- A contract of a function that turns what it owns: 'L' ahead of it, 'L'' behind it, whatever else there is. -/
def Fn_ (P : Program) (f : FuncId) (args : Array Value) (B : Nat) (W : World) (L : List SProp) {X : Type} (v : X → Value) (L' : X → List SProp) : Prop :=
  ∀ F w, Cls B W (L ++ [F]) w → Calls P f args w fun e w' => ∃ x, e = .returned (v x) ∧ Cls B W (L' x ++ [F]) w'
theorem ot_call {f : FuncId} {xs : Array Operand} {ts : Array TypeId} {vs : List Value} {fst cap : Array Value} {X : Type} {v : X → Value} {N : List SProp} {N' : X → List SProp} (hf : EvalR R x (.func (.func f) fst cap)) (hc : callB P f = true) (hxs : EvalRs R xs.toList vs)
    (h : Fn_ P f (fst ++ vs.toArray ++ cap) B W N v N') (hL : Picks L N M) :
    OT P n B W ⟨d, .call ⟨.value x, xs, ts⟩, ty, ps, af, g⟩ R L v (fun x => N' x ++ M) := fun a w s => by
  rw [op_call (hf.eval s.regs) hc (hxs.eval s.regs)]
  show Calls P f _ w _
  refine (h (starS M) w ⟨s.below, s.lo, (s.sat.perm hL.perm).fold⟩).mono ?_
  rintro e w' ⟨x, rfl, h1, h2, h3⟩
  exact ⟨x, rfl, h1, h2, h3.unfold⟩
theorem pure_of_calls {f : FuncId} {args : Array Value} (h : ∀ w, Below B W w → B ≤ w.heap.size → Calls P f args w fun e w' => e = .returned v ∧ Below w.heap.size w w') : Pure P f args B W L v := fun w hw =>
  (h w hw.1 hw.2.1).mono fun _ _ ⟨he, hb⟩ => ⟨he, hw.1.trans (hb.mono hw.2.1), Nat.le_trans hw.2.1 hb.size, hw.2.2.below hb⟩
theorem pure_of_same {f : FuncId} {args : Array Value} (h : ∀ w, Calls P f args w fun e w' => e = .returned v ∧ w = w') : Pure P f args B W L v := fun w hw =>
  (h w).mono fun _ _ ⟨he, hb⟩ => ⟨he, hb ▸ hw⟩
/-- From code to a contract. -/
theorem fn_enter {f : FuncId} {fn : Func} {c : Code} {args : Array Value} {X : Type} {v : X → Value} {L' : X → List SProp} (hf : P.funcs[f]? = some fn) (hb : fn.body = some c) {m : Nat} (hn : fn.ntmps = m) (hle : args.size ≤ m) {R : RList} (hR : (args.toList.zipIdx.map fun p => (p.2, p.1)) = R)
    (h : ∀ F, CT none P (bodyPost P fn fun e w' => ∃ x, e = .returned (v x) ∧ Cls B W (L' x ++ [F]) w') m B W c R (L ++ [F])) : Fn_ P f args B W L v L' := fun F w hw =>
  calls_of_wp hf hb (wpIn_wide (n := 0).1 (h F _ w (hw.st ⟨by simp [hn]; omega, rfl, fun p hp => by
    subst hR
    obtain ⟨q, hq, rfl⟩ := List.mem_map.1 hp
    obtain ⟨i, hi⟩ := List.mem_iff_getElem?.1 hq
    simp only [List.getElem?_zipIdx, Option.map_eq_some_iff] at hi
    obtain ⟨u, hu, rfl⟩ := hi
    have hi' : i < args.size := by
      have := (List.getElem?_eq_some_iff.1 hu).1; simpa using this
    simp only [Nat.zero_add]
    rw [Array.getElem?_append_left hi']
    simpa using hu⟩)))
theorem pure_enter {f : FuncId} {fn : Func} {c : Code} {args : Array Value} (hf : P.funcs[f]? = some fn) (hb : fn.body = some c) {m : Nat} (hn : fn.ntmps = m) (hle : args.size ≤ m) {R : RList} (hR : (args.toList.zipIdx.map fun p => (p.2, p.1)) = R)
    (h : CT none P (bodyPost P fn fun e w' => e = .returned v ∧ Cls B W L w') m B W c R L) : Pure P f args B W L v := fun w hw =>
  calls_of_wp hf hb (wpIn_wide (n := 0).1 (h _ w (hw.st ⟨by simp [hn]; omega, rfl, fun p hp => by
    subst hR
    obtain ⟨q, hq, rfl⟩ := List.mem_map.1 hp
    obtain ⟨i, hi⟩ := List.mem_iff_getElem?.1 hq
    simp only [List.getElem?_zipIdx, Option.map_eq_some_iff] at hi
    obtain ⟨u, hu, rfl⟩ := hi
    have hi' : i < args.size := by
      have := (List.getElem?_eq_some_iff.1 hu).1; simpa using this
    simp only [Nat.zero_add]
    rw [Array.getElem?_append_left hi']
    simpa using hu⟩)))
/-! ### Ways out -/
inductive ResR (P : Program) (R : RList) (L : List SProp) : List ResultVar → List Value → Prop where
  | nil : ResR P R L [] []
  | cons {t : Nat} {v : Value} {rs : List ResultVar} {vs : List Value} (h : (t, v) ∈ R) (k : ResR P R L rs vs) : ResR P R L (.tmp t :: rs) (v :: vs)
  | cell {t b o : Nat} {T : TypeId} {us : List Value} {v : Value} {rs : List ResultVar} {vs : List Value} (h : (t, Value.pointer (some ⟨b, o, none⟩)) ∈ R) (hL : pts b o us ∈ L) (hT : aggSize P T = some none) (hi : us[0]? = some v) (k : ResR P R L rs vs) : ResR P R L (.cell t T :: rs) (v :: vs)
  | cellA {t b o m : Nat} {T : TypeId} {us ws : List Value} {rs : List ResultVar} {vs : List Value} (h : (t, Value.pointer (some ⟨b, o, none⟩)) ∈ R) (hL : pts b o us ∈ L) (hT : aggSize P T = some (some m)) (hi : us.take m = ws) (hm : ws.length = m) (k : ResR P R L rs vs) : ResR P R L (.cell t T :: rs) (.agg ws.toArray :: vs)
def tupled : List Value → Value
  | [v] => v
  | vs => .tuple vs.toArray
theorem loadVar_run {w : World} {b o : Nat} {k : Option Nat} {us : List Value} (ht : aggSize P T = some k) (hk : us.length = k.getD 1) (h : ∀ j u, us[j]? = some u → w.cell? ⟨b, o + j, none⟩ = some u)
    (hv : v = match k with | some _ => .agg us.toArray | none => us.headD undef) : (loadVar T ⟨b, o, none⟩).run P w = .ok v w := load_run ht hk h hv
theorem ResR.run {rs : List ResultVar} {vs : List Value} (h : ResR P R L rs vs) {a : Act} {w : World} (s : Sta n B W R L a w) {fn : Func} (hfn : fn.results.toList = rs) : (results fn a.tmps).run P w = .ok (tupled vs) w := by
  have key : ∀ (rs : List ResultVar) (vs : List Value), ResR P R L rs vs → (rs.mapM (m := Sem) fun | .tmp t => pure (a.tmps.getD t undef) | .cell ad t => do loadVar t (← asAddr (a.tmps.getD ad undef))).run P w = .ok vs w := by
    intro rs vs h
    induction h with
    | nil => rfl
    | cons h k ih =>
      rw [List.mapM_cons]
      have := s.regs.has _ h
      simp only at this
      rename_i t v rs vs
      rw [run_bind_ok (a := v) (w' := w) (by simp [Array.getD_eq_getD_getElem?, this, pure]), run_bind_ok ih]
      rfl
    | cell h hL hT hi k ih =>
      rw [List.mapM_cons]
      have := s.regs.has _ h
      simp only at this
      rename_i t b o T us v rs vs
      have hc := (sat_cell s.sat hL hi).2.1
      rw [run_bind_ok (a := v) (w' := w) (by
        simp only [Array.getD_eq_getD_getElem?, this, Option.getD_some]
        rw [run_bind_ok (a := (⟨b, o, none⟩ : Addr)) (w' := w) rfl]
        exact loadVar_run (us := [v]) hT rfl (fun j u hj => by
          cases j with
          | zero => simp at hj; subst hj; exact hc
          | succ j => simp at hj) rfl), run_bind_ok ih]
      rfl
    | cellA h hL hT hi hm k ih =>
      rw [List.mapM_cons]
      have := s.regs.has _ h
      simp only at this
      rename_i t b o m T us ws rs vs
      rw [run_bind_ok (a := Value.agg ws.toArray) (w' := w) (by
        simp only [Array.getD_eq_getD_getElem?, this, Option.getD_some]
        rw [run_bind_ok (a := (⟨b, o, none⟩ : Addr)) (w' := w) rfl]
        exact loadVar_run (us := ws) hT hm (fun j u hj => by
          refine (sat_cell s.sat hL (i := j) ?_).2.1
          rw [← hi, List.getElem?_take] at hj
          split at hj
          · exact hj
          · cases hj) rfl), run_bind_ok ih]
      rfl
  unfold results
  have e : fn.results = rs.toArray := by rw [← hfn]
  rw [e]
  simp only [List.mapM_toArray]
  rw [run_bind_ok (a := vs.toArray) (w' := w) (by
    rw [map_eq_pure_bind]
    exact run_bind_ok (key rs vs h))]
  match vs with
  | [] => rfl
  | [v] => rfl
  | _ :: _ :: _ => rfl
theorem et_ret {fn : Func} {rs : List ResultVar} {vs : List Value} (hfn : fn.results.toList = rs) (h : ResR P R L rs vs) (hv : tupled vs = v) (hE : ∀ x, star L x → star L' x) : ET (bodyPost P fn fun e w' => e = .returned v ∧ Cls B W L' w') n B W .ret R L := fun a w s =>
  bodyPost_ret (h.run s hfn) s.regs.defers ⟨by rw [hv], s.below, s.lo, s.sat.imp hE⟩
theorem et_end {fn : Func} {rs : List ResultVar} {vs : List Value} (hfn : fn.results.toList = rs) (h : ResR P R L rs vs) (hv : tupled vs = v) (hE : ∀ x, star L x → star L' x) : ET (bodyPost P fn fun e w' => e = .returned v ∧ Cls B W L' w') n B W .normal R L := fun a w s =>
  ⟨s.regs.defers, _, h.run s hfn, by rw [hv], s.below, s.lo, s.sat.imp hE⟩
end
end Go.Proofs.Ytkfkiaieeiodnaa
