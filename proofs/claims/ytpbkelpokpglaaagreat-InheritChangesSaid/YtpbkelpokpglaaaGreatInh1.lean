/- The words for layer 30's walks: rows of one-cell elements, the map of waits, the two states in memory. -/
import Derived.Test.YtpbkelpokpglaaaGreatInh0
import Derived.Test.YtpbkelpokpglaaaGreatKeep2
import Derived.Maps.OwnSet
set_option linter.all false
namespace Go.Proofs.YtpbkelpokpglaaaGreat
set_option maxRecDepth 100000
open Go.RowKit Go.Maps
/-! ### A row whose first cells are known -/
def Arr (w : World) (b : Nat) (t : TypeId) (vs : List Value) : Prop := ∃ cs : Array Value, Blk w b t cs ∧ ∃ rest, cs.toList = vs ++ rest
section
variable {w w' : World} {b : Nat} {t : TypeId} {vs : List Value}
theorem Arr.lt (h : Arr w b t vs) : b < w.heap.size := by obtain ⟨_, hB, _⟩ := h; exact hB.lt
theorem Arr.cell (h : Arr w b t vs) {i : Nat} {u : Value} (hi : vs[i]? = some u) : w.cell? ⟨b, i, none⟩ = some u := by
  obtain ⟨cs, hB, rest, hr⟩ := h
  rw [hB.cell i, ← Array.getElem?_toList, hr, List.getElem?_append_left (by
    rcases Nat.lt_or_ge i vs.length with h1 | h1
    · exact h1
    · rw [List.getElem?_eq_none h1] at hi; cases hi), hi]
theorem Arr.frozen (h : Arr w b t vs) (i : Nat) : w.frozen? ⟨b, i, none⟩ = false := by obtain ⟨_, hB, _⟩ := h; exact hB.frozen i
theorem Arr.alloc (h : Arr w b t vs) (o : Obj) : Arr (w.alloc o) b t vs := by obtain ⟨cs, hB, hr⟩ := h; exact ⟨cs, hB.alloc o, hr⟩
theorem Arr.set_ (h : Arr w b t vs) (i : Nat) (hi : i < vs.length) (u : Value) : Arr (w.setCell ⟨b, i, none⟩ u) b t (vs.set i u) := by
  obtain ⟨cs, hB, rest, hr⟩ := h
  exact ⟨_, hB.set_ i u, rest, by simp [hr, hi]⟩
theorem Arr.far (h : Arr w b t vs) {p : Addr} (hp : b ≠ p.block) (u : Value) : Arr (w.setCell p u) b t vs := by obtain ⟨cs, hB, hr⟩ := h; exact ⟨cs, hB.far hp u, hr⟩
theorem Arr.below {B : Nat} (h : Arr w b t vs) (hb : Below B w w') (hg : b < B) : Arr w' b t vs := by obtain ⟨cs, hB, hr⟩ := h; exact ⟨cs, hB.below hb hg, hr⟩
theorem Arr.grown {row : Option Nat} (h : Arr w b t vs) (hb : w.grownBy w' row) (hg : some b ≠ row) : Arr w' b t vs := by obtain ⟨cs, hB, hr⟩ := h; exact ⟨cs, hB.grown hb hg, hr⟩
theorem Arr.drewN (h : Arr w b t vs) (n : Nat) : Arr (w.drewN n) b t vs := h
theorem Arr.of_blk {cs : Array Value} (h : Blk w b t cs) (e : cs = vs.toArray) : Arr w b t vs := ⟨cs, h, [], by simp [e]⟩
theorem Arr.of_eq {vs' : List Value} (h : Arr w b t vs) (e : vs = vs') : Arr w b t vs' := e ▸ h
theorem Arr.of_row {base n : Nat} {v : Value} (h : w.ownsRow base t 1 v n vs) (hn : 0 < n) : ∃ g cap, v = .slice (some ⟨g, 0, none⟩) n cap ∧ base ≤ g ∧ Arr w g t vs := by
  rcases h.2 with ⟨_, rfl⟩ | ⟨g, cap, cur, rfl, h1, h2, _, _, _, h5⟩
  · omega
  · refine ⟨g, cap, rfl, h1, cur, h2, cur.toList.drop n, ?_⟩
    rw [Nat.mul_one] at h5
    rw [← h5]; simp
theorem arr_ne {b' : Nat} {t' : TypeId} {vs' : List Value} (h : Arr w b t vs) (h' : Arr w b' t' vs') (hne : t ≠ t') : b ≠ b' := by
  obtain ⟨_, hB, _⟩ := h
  obtain ⟨_, hB', _⟩ := h'
  exact blk_ne hB hB' hne
theorem arr_blk_ne {b' : Nat} {t' : TypeId} {cs : Array Value} (h : Arr w b t vs) (h' : Blk w b' t' cs) (hne : t ≠ t') : b ≠ b' := by
  obtain ⟨_, hB, _⟩ := h
  exact blk_ne hB h' hne
end
theorem arr_sl {w : World} {b : Nat} {t : TypeId} {xs : List Int} (h : Arr w b t (xs.map (Value.int .i64))) (hl : xs.length ≤ 9223372036854775807) : Sl encInt 1 w w.heap.size (some ⟨b, 0, none⟩) xs :=
  ⟨hl, fun _ => ⟨b, 0, rfl, h.lt, fun i x hx j u hu => by
    obtain ⟨hj, rfl⟩ : j = 0 ∧ u = .int .i64 x := by
      cases j with
      | zero => simp [encInt] at hu; exact ⟨rfl, hu.symm⟩
      | succ j => simp [encInt] at hu
    subst hj
    have := h.cell (i := i) (u := .int .i64 x) (by simp [hx])
    simpa using this⟩⟩
/-! ### The map of waits -/
@[reducible] def wtV (x : Wt) : Value := .agg #[.int .i64 x.child, .int .i64 x.worker, .bool x.settled, .int .i64 x.level]
def wtZ : Wt := ⟨0, 0, false, 0⟩
def wtD (x : Wt) : DataW Unit := .agg [.lit (.int .i64 x.child), .lit (.int .i64 x.worker), .lit (.bool x.settled), .lit (.int .i64 x.level)]
def wtElem (v : Value) : Option (DataW Unit × List MemPlace) :=
  match v with
  | .agg cs => match cs.toList with
    | [.int .i64 a, .int .i64 b, .bool s, .int .i64 l] => some (wtD ⟨a, b, s, l⟩, [])
    | _ => none
  | _ => none
theorem wtElem_mk (x : Wt) : wtElem (wtV x) = some (wtD x, []) := rfl
theorem wtElem_inv {v : Value} {x : Wt} {ps : List MemPlace} (h : wtElem v = some (wtD x, ps)) : v = wtV x := by
  unfold wtElem at h
  split at h
  · rename_i cs
    obtain ⟨l⟩ := cs
    split at h
    · rename_i a b s l' hl
      simp only [wtD, Option.some.injEq, Prod.mk.injEq, DataW.agg.injEq, List.cons.injEq, DataW.lit.injEq, Lit.int.injEq, Lit.bool.injEq] at h
      obtain ⟨⟨⟨_, h1⟩, ⟨_, h2⟩, h3, ⟨_, h4⟩, _⟩, _⟩ := h
      simp only at hl
      subst hl h1 h2 h3 h4
      rfl
    · cases h
  · cases h
theorem intLaw : Keyed Tryz.prog 3 := int_keyed Tryz.underlying3
theorem zeroWt (w : World) : (zeroValue 169).run Tryz.prog w = .ok (wtV wtZ) w := by kernel_rfl
/-- Block b is a map of at most n waits: those of f. -/
def WMap (w : World) (b n : Nat) (f : Int → Option Wt) : Prop :=
  ∃ D : DataW Unit, w.ownsMap Tryz.prog 3 wtElem b n D ∧ IsMap D ∧ ∀ k : Int, has D (.int .i64 k) = (f k).isSome ∧ ∀ x, f k = some x → ∀ z, D.atKey (.int .i64 k) z = wtD x
def wsF (ws : List (Option Wt)) : Int → Option Wt := fun k => if k < 0 then none else ws.getD k.toNat none
theorem wsF_set {ws : List (Option Wt)} {k : Int} (h0 : 0 ≤ k) (h1 : k < ws.length) (o : Option Wt) : wsF (ws.set k.toNat o) = fun j => if j = k then o else wsF ws j := by
  funext j
  unfold wsF
  by_cases hj : j < 0
  · rw [if_pos hj, if_pos hj, if_neg (by omega)]
  · rw [if_neg hj, if_neg hj]
    by_cases e : j = k
    · subst e
      simp only [List.getD, List.getElem?_set, if_true]
      rw [if_pos (by omega)]
      rfl
    · rw [if_neg e]
      simp only [List.getD, List.getElem?_set]
      rw [if_neg (by omega)]
section
variable {w w' : World} {b n : Nat} {f : Int → Option Wt}
theorem WMap.lt (h : WMap w b n f) : b < w.heap.size := by obtain ⟨_, hD, _⟩ := h; exact hD.lt
theorem WMap.kept {row : Option Nat} (h : WMap w b n f) (hg : w.grownBy w' row) (hne : some b ≠ row) : WMap w' b n f := by obtain ⟨D, hD, h2⟩ := h; exact ⟨D, hD.kept hg hne, h2⟩
theorem WMap.alloc (h : WMap w b n f) (o : Obj) : WMap (w.alloc o) b n f := by obtain ⟨D, hD, h2⟩ := h; exact ⟨D, hD.alloc o, h2⟩
theorem WMap.drewN (h : WMap w b n f) (k : Nat) : WMap (w.drewN k) b n f := h
theorem WMap.mono (h : WMap w b n f) {n' : Nat} (hn : n ≤ n') : WMap w b n' f := by obtain ⟨D, hD, h2⟩ := h; exact ⟨D, hD.mono hn, h2⟩
theorem WMap.of_eq {f' : Int → Option Wt} (h : WMap w b n f) (e : f = f') : WMap w b n f' := e ▸ h
theorem WMap.blk_ne {g : Nat} {t : TypeId} {cs : Array Value} (h : WMap w b n f) (hB : Blk w g t cs) : b ≠ g := by
  rintro rfl
  obtain ⟨D, ⟨es, clock, h1, _⟩, _⟩ := h
  unfold Blk at hB
  rw [hB] at h1
  cases h1
theorem WMap.setCell (h : WMap w b n f) {p : Addr} (hp : b ≠ p.block) (u : Value) : WMap (w.setCell p u) b n f := by obtain ⟨D, hD, h2⟩ := h; exact ⟨D, hD.setCell hp u, h2⟩
theorem WMap.new (w : World) : WMap (w.alloc (.map #[] 0)) w.heap.size 0 (fun _ => none) :=
  ⟨.map [], World.ownsMap_made _ _ _ _, isMap_empty, fun _ => ⟨rfl, fun _ h => by cases h⟩⟩
theorem WMap.below {B : Nat} (h : WMap w b n f) (hb : Below B w w') (hg : b < B) : WMap w' b n f := by
  obtain ⟨D, ⟨es, clock, h1, h2⟩, h3⟩ := h
  exact ⟨D, ⟨es, clock, (hb.block b hg).trans h1, h2⟩, h3⟩
end
section
variable (w : World) {ops : Array Oper} {rest : List Oper} {o : Oper} {a : Act} {Q : Exit → Act → World → Prop}
theorem wpList_lookup_wt (hg : o.guard = none) (m x : Operand) (hop : o.op = Op.lookup 134 m x false) (b n : Nat) (f : Int → Option Wt)
    (hm : a.eval m = .map (some b)) (hown : WMap w b n f) (k : Int) (h0 : -9223372036854775808 ≤ k) (h1 : k ≤ 9223372036854775807) (hx : a.eval x = .int .i64 k)
    (hK : wpList Tryz.prog ops Q rest (a.put o.dst (wtV ((f k).getD wtZ))) w) : wpList Tryz.prog ops Q (o :: rest) a w := by
  obtain ⟨D, hD, _, hf⟩ := hown
  refine wpList_plain hg fun K' hK' => ?_
  have hkey := keyOf_int_mk (P := Tryz.prog) Tryz.underlying3 (q := .i64) (a := k) (WalkArith.wf_i64 (by omega))
  obtain ⟨v, ps, hrun, hv⟩ := hD.lookup intLaw Tryz.underlying134 (zeroWt w) (wtElem_mk wtZ) hkey
  have hval : v = wtV ((f k).getD wtZ) := by
    obtain ⟨hh, ha⟩ := hf k
    cases hfk : f k with
    | none =>
      rw [hfk] at hh
      rw [atKey_of_not_has (by simpa using hh)] at hv
      exact wtElem_inv hv
    | some y =>
      rw [ha y hfk] at hv
      exact wtElem_inv hv
  subst hval
  unfold Oper.wp
  simp [execOp, hop, hm, hx, hrun, Result.andThen]
  exact hK' _ _ hK
theorem wpList_lookup_wt_ok (hg : o.guard = none) (m x : Operand) (hop : o.op = Op.lookup 134 m x true) (b n : Nat) (f : Int → Option Wt)
    (hm : a.eval m = .map (some b)) (hown : WMap w b n f) (k : Int) (h0 : -9223372036854775808 ≤ k) (h1 : k ≤ 9223372036854775807) (hx : a.eval x = .int .i64 k)
    (hK : wpList Tryz.prog ops Q rest (a.put o.dst (.tuple #[wtV ((f k).getD wtZ), .bool (f k).isSome])) w) : wpList Tryz.prog ops Q (o :: rest) a w := by
  obtain ⟨D, hD, _, hf⟩ := hown
  refine wpList_plain hg fun K' hK' => ?_
  have hkey := keyOf_int_mk (P := Tryz.prog) Tryz.underlying3 (q := .i64) (a := k) (WalkArith.wf_i64 (by omega))
  obtain ⟨v, ps, hrun, hv⟩ := hD.look_ok intLaw Tryz.underlying134 (zeroWt w) (wtElem_mk wtZ) hkey
  obtain ⟨hh, ha⟩ := hf k
  have hval : v = wtV ((f k).getD wtZ) := by
    cases hfk : f k with
    | none =>
      rw [hfk] at hh
      rw [atKey_of_not_has (by simpa using hh)] at hv
      exact wtElem_inv hv
    | some y =>
      rw [ha y hfk] at hv
      exact wtElem_inv hv
  subst hval
  rw [hh] at hrun
  unfold Oper.wp
  simp [execOp, hop, hm, hx, hrun, Result.andThen]
  exact hK' _ _ hK
theorem wpList_update_wt (hg : o.guard = none) (m x v : Operand) (hop : o.op = Op.mapUpdate 134 m x v) (b n : Nat) (f : Int → Option Wt)
    (hm : a.eval m = .map (some b)) (hown : WMap w b n f) (hn : n ≤ 1048576) (k : Int) (h0 : -9223372036854775808 ≤ k) (h1 : k ≤ 9223372036854775807) (hx : a.eval x = .int .i64 k) (y : Wt) (hv : a.eval v = wtV y)
    (hK : ∀ w', WMap w' b (n + 1) (fun j => if j = k then some y else f j) → w.grownBy w' (some b) → wpList Tryz.prog ops Q rest (a.put o.dst undef) w') : wpList Tryz.prog ops Q (o :: rest) a w := by
  obtain ⟨D, hD, hM, hf⟩ := hown
  have hkey := keyOf_int_mk (P := Tryz.prog) Tryz.underlying3 (q := .i64) (a := k) (WalkArith.wf_i64 (by omega))
  refine wpList_mapUpdate_own w hg m x v _ hop 3 169 intLaw Tryz.underlying134 wtElem b n D hm hD (by unfold maxLen; omega) _ _ (.int .i64 k) hx hv hkey (wtD y) [] (wtElem_mk y) (fun w' h1 h2 => hK w' ⟨_, h1, hM.put _ _, fun j => ?_⟩ h2)
  by_cases e : j = k
  · subst e
    rw [has_put_same hM (by trivial)]
    simp only [if_true]
    exact ⟨rfl, fun x hx z => by injection hx with hx; subst hx; exact atKey_put_same hM (by trivial) _ _⟩
  · have hne : (Lit.int .i64 j) ≠ .int .i64 k := fun h => e (by injection h)
    rw [has_put_other hne]
    simp only [if_neg e]
    exact ⟨(hf j).1, fun x hx z => by rw [atKey_put_other hne]; exact (hf j).2 x hx z⟩
theorem wpList_delete_wt (hg : o.guard = none) (m x : Operand) (hop : o.op = Op.call { callee := Callee.builtin Builtin.delete, args := #[m, x], argTypes := #[134, 3] }) (b n : Nat) (f : Int → Option Wt)
    (hm : a.eval m = .map (some b)) (hown : WMap w b n f) (k : Int) (h0 : -9223372036854775808 ≤ k) (h1 : k ≤ 9223372036854775807) (hx : a.eval x = .int .i64 k)
    (hK : ∀ w', WMap w' b n (fun j => if j = k then none else f j) → w.grownBy w' (some b) → wpList Tryz.prog ops Q rest (a.put o.dst (.tuple #[])) w') : wpList Tryz.prog ops Q (o :: rest) a w := by
  obtain ⟨D, hD, hM, hf⟩ := hown
  have hkey := keyOf_int_mk (P := Tryz.prog) Tryz.underlying3 (q := .i64) (a := k) (WalkArith.wf_i64 (by omega))
  refine wpList_delete_own w hg m x _ _ hop 169 intLaw Tryz.underlying134 wtElem b n D hm hD _ (.int .i64 k) hx hkey (fun w' h1 h2 => hK w' ⟨_, h1, hM.del _, fun j => ?_⟩ h2.grown)
  by_cases e : j = k
  · subst e
    rw [has_del_same]
    simp
  · have hne : (Lit.int .i64 j) ≠ .int .i64 k := fun h => e (by injection h)
    rw [has_del_other hne]
    simp only [if_neg e]
    exact ⟨(hf j).1, fun x hx z => by rw [atKey_del_other hne]; exact (hf j).2 x hx z⟩
end
/-! ### The program's state in memory -/
/-- The state s of n tasks lies in block g; its parts lie in bl, bf, bm; all of them from block B on. -/
structure PInh (B : Nat) (w : World) (g bl cl bf bm : Nat) (s : Inh) (n nm : Nat) : Prop where
  st : Blk w g 136 #[.slice (some ⟨bl, 0, none⟩) n cl, .slice (some ⟨bf, 0, none⟩) n n, .map (some bm)]
  lv : Arr w bl 3 (s.lv.map (Value.int .i64))
  fin : Arr w bf 4 (s.fin.map Value.bool)
  ws : WMap w bm nm (wsF s.ws)
  wf : s.Wf n
  n1 : 1 ≤ n
  n2 : n ≤ 256
  m2 : nm ≤ 1048576
  xg : B ≤ g
  xl : B ≤ bl
  xf : B ≤ bf
  xm : B ≤ bm
section
variable {B : Nat} {w w' : World} {g bl cl bf bm : Nat} {s : Inh} {n nm : Nat}
theorem PInh.below {B' : Nat} (h : PInh B w g bl cl bf bm s n nm) (hb : Below B' w w') (hB : w.heap.size ≤ B') : PInh B w' g bl cl bf bm s n nm :=
  ⟨h.st.below hb (Nat.lt_of_lt_of_le h.st.lt hB), h.lv.below hb (Nat.lt_of_lt_of_le h.lv.lt hB), h.fin.below hb (Nat.lt_of_lt_of_le h.fin.lt hB), h.ws.below hb (Nat.lt_of_lt_of_le h.ws.lt hB), h.wf, h.n1, h.n2, h.m2, h.xg, h.xl, h.xf, h.xm⟩
theorem PInh.down {B' : Nat} (h : PInh B w g bl cl bf bm s n nm) (hB : B' ≤ B) : PInh B' w g bl cl bf bm s n nm :=
  ⟨h.st, h.lv, h.fin, h.ws, h.wf, h.n1, h.n2, h.m2, Nat.le_trans hB h.xg, Nat.le_trans hB h.xl, Nat.le_trans hB h.xf, Nat.le_trans hB h.xm⟩
theorem PInh.alloc (h : PInh B w g bl cl bf bm s n nm) (o : Obj) : PInh B (w.alloc o) g bl cl bf bm s n nm :=
  ⟨h.st.alloc o, h.lv.alloc o, h.fin.alloc o, h.ws.alloc o, h.wf, h.n1, h.n2, h.m2, h.xg, h.xl, h.xf, h.xm⟩
theorem PInh.drewN (h : PInh B w g bl cl bf bm s n nm) (k : Nat) : PInh B (w.drewN k) g bl cl bf bm s n nm :=
  ⟨h.st.drewN k, h.lv.drewN k, h.fin.drewN k, h.ws.drewN k, h.wf, h.n1, h.n2, h.m2, h.xg, h.xl, h.xf, h.xm⟩
end
end Go.Proofs.YtpbkelpokpglaaaGreat
