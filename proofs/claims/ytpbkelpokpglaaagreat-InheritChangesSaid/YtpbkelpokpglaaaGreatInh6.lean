/- Walk: the reference's first state (layer 30). -/
import Derived.Test.YtpbkelpokpglaaaGreatInh5
import Derived.Test.YtpbkelpokpglaaaGreatReg2
import Derived.Deep.AppendLies
import Derived.Deep.DrawnRows
set_option linter.all false
namespace Go.Proofs.YtpbkelpokpglaaaGreat
open Go.RowKit Go.Maps
def encW (o : Option Wt) : List Value :=
  match o with
  | some x => [.bool true, .bool x.settled, .int .i64 x.child, .int .i64 x.worker, .int .i64 x.level]
  | none => [.bool false, .bool false, .int .i64 0, .int .i64 0, .int .i64 0]
theorem encW_len (o : Option Wt) : (encW o).length = 5 := by cases o <;> rfl
theorem waitInfo : (Tryz.prog.info? 174).map (fun i => (i.zero, i.size, i.bytes)) = some (some (.agg #[.bool false, .bool false, .int .i64 0, .int .i64 0, .int .i64 0]), 5, 32) := by kernel_rfl
theorem news_blk {w : World} {g : Nat} {t : TypeId} {l : List Value} (this : Blk w g t l.toArray) : ∀ (j : Nat) u, l[j]? = some u → w.cell? ((⟨g, 0, none⟩ : Addr).add j) = some u := by
  intro j u hu
  rw [addr_add, this.cell j]
  simpa using hu
/-- One of several rows that a statement lengthens by one element each: not yet begun, its element laid, done. -/
def Comp (B : Nat) (e : TypeId) (size : Nat) (v0 : Value) (k : Nat) (xs news : List Value) (laid done : Bool) (x y : Value) (w : World) : Prop :=
  if done then ∃ g1 c1, y = .slice (some ⟨g1, 0, none⟩) (k + 1) c1 ∧ w.ownsRow B e size (.slice (some ⟨g1, 0, none⟩) (k + 1) c1) (k + 1) (xs ++ news)
  else w.ownsRow B e size v0 k xs ∧ (laid = true → ∃ h, x = .slice (some ⟨h, 0, none⟩) 1 1 ∧ Blk w h e news.toArray)
section
variable {B : Nat} {e : TypeId} {size : Nat} {v0 : Value} {k : Nat} {xs news : List Value} {laid done : Bool} {x y : Value} {w w' : World}
theorem Comp.alloc (h : Comp B e size v0 k xs news laid done x y w) (o : Obj) : Comp B e size v0 k xs news laid done x y (w.alloc o) := by
  unfold Comp at *
  split
  · rename_i hd
    rw [if_pos hd] at h
    obtain ⟨g1, c1, h1, h2⟩ := h
    exact ⟨g1, c1, h1, h2.alloc o⟩
  · rename_i hd
    rw [if_neg hd] at h
    exact ⟨h.1.alloc o, fun hl => by obtain ⟨b, h1, h2⟩ := h.2 hl; exact ⟨b, h1, h2.alloc o⟩⟩
theorem Comp.grown {B' : Nat} {e' : TypeId} {size' n' : Nat} {u : Value} {ys : List Value} (h : Comp B e size v0 k xs news laid done x y w) (hr : w.ownsRow B' e' size' u n' ys) (hg : w.grownBy w' u.ownBlock) (hne : e ≠ e') :
    Comp B e size v0 k xs news laid done x y w' := by
  unfold Comp at *
  split
  · rename_i hd
    rw [if_pos hd] at h
    obtain ⟨g1, c1, h1, h2⟩ := h
    exact ⟨g1, c1, h1, h2.kept hg (rows_ne h2 hr (Ne.symm hne))⟩
  · rename_i hd
    rw [if_neg hd] at h
    exact ⟨h.1.kept hg (rows_ne h.1 hr (Ne.symm hne)), fun hl => by obtain ⟨b, h1, h2⟩ := h.2 hl; exact ⟨b, h1, h2.grown hg (blk_row h2 hr hne)⟩⟩
theorem Comp.set_ {g : Nat} {t : TypeId} {cs : Array Value} (h : Comp B e size v0 k xs news laid done x y w) (hB : Blk w g t cs) (hne : t ≠ e) (i : Nat) (u : Value) : Comp B e size v0 k xs news laid done x y (w.setCell ⟨g, i, none⟩ u) := by
  unfold Comp at *
  split
  · rename_i hd
    rw [if_pos hd] at h
    obtain ⟨g1, c1, h1, h2⟩ := h
    exact ⟨g1, c1, h1, row_set h2 hB hne i u⟩
  · rename_i hd
    rw [if_neg hd] at h
    exact ⟨row_set h.1 hB hne i u, fun hl => by obtain ⟨b, h1, h2⟩ := h.2 hl; exact ⟨b, h1, h2.far (blk_ne h2 hB (Ne.symm hne)) _⟩⟩
theorem Comp.row (h : Comp B e size v0 k xs news laid false x y w) : w.ownsRow B e size v0 k xs := by unfold Comp at h; simpa using h.1
theorem Comp.elem (h : Comp B e size v0 k xs news true false x y w) : ∃ b, x = .slice (some ⟨b, 0, none⟩) 1 1 ∧ Blk w b e news.toArray := by unfold Comp at h; simpa using h.2
theorem Comp.lay (h : Comp B e size v0 k xs news laid false x y w) (y' : Value) : Comp B e size v0 k xs news true false (.slice (some ⟨w.heap.size, 0, none⟩) 1 1) y' (w.alloc (.cells news.toArray e)) := by
  unfold Comp at *
  simp at h ⊢
  exact ⟨h.1.alloc _, Blk.new _ _ _⟩
theorem Comp.fin {g1 c1 : Nat} (h : w.ownsRow B e size (.slice (some ⟨g1, 0, none⟩) (k + 1) c1) (k + 1) (xs ++ news)) : Comp B e size v0 k xs news laid true x (.slice (some ⟨g1, 0, none⟩) (k + 1) c1) w := by
  unfold Comp
  simp only [if_true]
  exact ⟨g1, c1, rfl, h⟩
theorem Comp.out (h : Comp B e size v0 k xs news laid true x y w) : ∃ g1 c1, y = .slice (some ⟨g1, 0, none⟩) (k + 1) c1 ∧ w.ownsRow B e size (.slice (some ⟨g1, 0, none⟩) (k + 1) c1) (k + 1) (xs ++ news) := by unfold Comp at h; simpa using h
end
/-- Where first stands in round k. -/
structure FirSt (w : World) (g k : Nat) (v1 v2 v3 : Value) (wr : World) : Prop where
  bel : Below w.heap.size w wr
  st : Blk wr g 141 #[v1, v2, v3]
  lv : wr.ownsRow w.heap.size 3 1 v1 k (List.replicate k (.int .i64 (-1)))
  fin : wr.ownsRow w.heap.size 4 1 v2 k (List.replicate k (.bool false))
  ws : wr.ownsRow w.heap.size 174 5 v3 k ((List.replicate k (none : Option Wt)).flatMap encW)
  xg : w.heap.size ≤ g
structure FirI (w : World) (b0 g k : Nat) (A1 A2 A3 : Option Addr) (p1 p2 p3 : Nat) (listed : Array Bool) (x : Nat → Value) (cb : Array Value) (wr : World) : Prop where
  q0 : listed.getD 0 false = true → x 13 = .pointer (some ⟨g, 0, none⟩)
  q1 : listed.getD 1 false = true → x 14 = .pointer (some ⟨g, 0, none⟩)
  q2 : listed.getD 2 false = true → x 15 = .pointer (some ⟨g, 0, none⟩)
  q3 : listed.getD 3 false = true → x 16 = .pointer (some ⟨g, 0, none⟩)
  q4 : listed.getD 4 false = true → x 17 = .pointer (some ⟨g, 0, none⟩)
  q5 : listed.getD 5 false = true → x 18 = .pointer (some ⟨g, 0, none⟩)
  q6 : listed.getD 6 false = true → x 19 = .slice A1 k p1
  q9 : listed.getD 9 false = true → x 22 = .pointer (some ⟨g, 0, none⟩)
  q10 : listed.getD 10 false = true → x 23 = .pointer (some ⟨g, 0, none⟩)
  q11 : listed.getD 11 false = true → x 24 = .pointer (some ⟨g, 1, none⟩)
  q12 : listed.getD 12 false = true → x 25 = .slice A2 k p2
  q15 : listed.getD 15 false = true → x 28 = .pointer (some ⟨g, 0, none⟩)
  q16 : listed.getD 16 false = true → x 29 = .pointer (some ⟨g, 0, none⟩)
  q17 : listed.getD 17 false = true → x 30 = .pointer (some ⟨g, 2, none⟩)
  q18 : listed.getD 18 false = true → x 31 = .slice A3 k p3
  q19 : listed.getD 19 false = true → x 32 = .agg #[.bool false, .bool false, .int .i64 0, .int .i64 0, .int .i64 0]
  q22 : listed.getD 22 false = true → x 35 = .pointer (some ⟨g, 0, none⟩)
  q23 : listed.getD 23 false = true → x 36 = .pointer (some ⟨g, 0, none⟩)
  q25 : listed.getD 25 false = true → x 37 = .pointer (some ⟨g, 0, none⟩)
  q26 : listed.getD 26 false = true → x 38 = .pointer (some ⟨g, 1, none⟩)
  q28 : listed.getD 28 false = true → x 39 = .pointer (some ⟨g, 0, none⟩)
  q29 : listed.getD 29 false = true → x 40 = .pointer (some ⟨g, 2, none⟩)
  cA : Comp w.heap.size 3 1 (.slice A1 k p1) k (List.replicate k (.int .i64 (-1))) [.int .i64 (-1)] (listed.getD 7 false) (listed.getD 8 false) (x 20) (x 21) wr
  cB : Comp w.heap.size 4 1 (.slice A2 k p2) k (List.replicate k (.bool false)) [.bool false] (listed.getD 13 false) (listed.getD 14 false) (x 26) (x 27) wr
  cC : Comp w.heap.size 174 5 (.slice A3 k p3) k ((List.replicate k (none : Option Wt)).flatMap encW) [.bool false, .bool false, .int .i64 0, .int .i64 0, .int .i64 0] (listed.getD 20 false) (listed.getD 21 false) (x 33) (x 34) wr
  st : Blk wr g 141 #[if listed.getD 24 false then x 21 else .slice A1 k p1, if listed.getD 27 false then x 27 else .slice A2 k p2, if listed.getD 30 false then x 34 else .slice A3 k p3]
  bel : Below w.heap.size w wr
  cf : Blk wr b0 28 cb
  xg : w.heap.size ≤ g
def FrmR (c : Cfg) (p : CfgAt) (b0 g k : Nat) (u : Nat → Value) (x : Nat → Value) : Act := { tmps := #[.agg #[.int .i64 c.workers, .int .i64 c.levels, .int .i64 c.classes, .int .i64 c.tasks, .int .i64 c.deque, .int .i64 c.heap, .int .i64 c.batch, .int .i64 c.age, .int .i64 c.patience, .slice p.pa c.progs.length p.pc, .slice p.sa c.subs.length p.sc], .pointer (some ⟨b0, 0, none⟩), .pointer none, .pointer (some ⟨g, 0, none⟩), .int .i64 (k : Int), .agg #[.slice none 0 0, .slice none 0 0, .slice none 0 0], .pointer (some ⟨g, 0, none⟩), .int .i64 (k : Int), .pointer (some ⟨b0, 3, none⟩), .int .i64 c.tasks, .bool true, u 11, u 12, x 13, x 14, x 15, x 16, x 17, x 18, x 19, x 20, x 21, x 22, x 23, x 24, x 25, x 26, x 27, x 28, x 29, x 30, x 31, x 32, x 33, x 34, x 35, x 36, x 37, x 38, x 39, x 40, undef], defers := [] }
set_option maxRecDepth 100000 in
set_option maxHeartbeats 4000000 in
theorem first_any (c : Cfg) (p : CfgAt) (w : World) (h1 : 1 ≤ c.tasks) (h2 : c.tasks ≤ 256) :
    Calls Tryz.prog 70 #[cfgV c p] w fun e w' => ∃ g, e = .returned (.pointer (some ⟨g, 0, none⟩)) ∧ ∃ v1 v2 v3, FirSt w g c.tasks.toNat v1 v2 v3 w' := by
  obtain ⟨i0, hi0, hz0, hs0, hb0⟩ := info_parts intInfo1
  obtain ⟨i1, hi1, hz1, hs1, hb1⟩ := info_parts boolInfo
  obtain ⟨i2, hi2, hz2, hs2, hb2⟩ := info_parts waitInfo
  unfold cfgV
  go_enter Tryz.func70, Tryz.ntmps70
  go_wp2_with fail
  obtain ⟨g, hg⟩ : ∃ b : Nat, b = w.heap.size + 1 := ⟨_, rfl⟩
  have hcc : Blk ((w.alloc (cfgBox c p)).alloc (.cells #[.slice none 0 0, .slice none 0 0, .slice none 0 0] 141)) w.heap.size 28 (cfgC c.workers c.levels c.classes c.tasks c.deque c.heap c.batch c.age c.patience (.slice p.pa c.progs.length p.pc) (.slice p.sa c.subs.length p.sc)) := (Blk.new _ _ _).alloc _
  have hSt : FirSt w g 0 (.slice none 0 0) (.slice none 0 0) (.slice none 0 0) ((w.alloc (cfgBox c p)).alloc (.cells #[.slice none 0 0, .slice none 0 0, .slice none 0 0] 141)) :=
    ⟨((Below.refl _ _).alloc (Nat.le_refl _) _).alloc (by simp) _, Blk.new_at (by simp; omega), World.ownsRow_nil _ _ _ _, World.ownsRow_nil _ _ _ _, World.ownsRow_nil _ _ _ _, by omega⟩
  simp only [← hg]
  clear hg
  go_loopw [4] (fun i wr => ∃ (k : Nat) (v1 v2 v3 : Value), k ≤ c.tasks.toNat ∧ i = .int .i64 k ∧ FirSt w g k v1 v2 v3 wr ∧ Blk wr w.heap.size 28 (cfgC c.workers c.levels c.classes c.tasks c.deque c.heap c.batch c.age c.patience (.slice p.pa c.progs.length p.pc) (.slice p.sa c.subs.length p.sc))) (fun i _ => c.tasks.toNat - (intOf i).toNat)
  case atStart => exact ⟨0, _, _, _, by omega, rfl, hSt, hcc⟩
  case round =>
    clear hSt hcc
    obtain ⟨k, v1, v2, v3, hk, rfl, hs, hcc⟩ := hrel
    obtain ⟨A1, p1, e1⟩ := row_slice hs.lv
    obtain ⟨A2, p2, e2⟩ := row_slice hs.fin
    obtain ⟨A3, p3, e3⟩ := row_slice hs.ws
    subst e1 e2 e3
    have hcC := hcc.cell
    by_cases hlt : (k : Int) < c.tasks
    · go_wp2
      refine wp_region_all (fun listed a wa => ∃ x : Nat → Value, a = FrmR c p w.heap.size g k (fun i => match i with | 11 => u11 | 12 => u12 | _ => undef) x ∧ FirI w w.heap.size g k A1 A2 A3 p1 p2 p3 listed x (cfgC c.workers c.levels c.classes c.tasks c.deque c.heap c.batch c.age c.patience (.slice p.pa c.progs.length p.pc) (.slice p.sa c.subs.length p.sc)) wa) (by kernel_rfl) (by kernel_rfl) ?_ ?_ ?_
      · refine ⟨fun i => match i with | 13 => u13 | 14 => u14 | 15 => u15 | 16 => u16 | 17 => u17 | 18 => u18 | 19 => u19 | 20 => u20 | 21 => u21 | 22 => u22 | 23 => u23 | 24 => u24 | 25 => u25 | 26 => u26 | 27 => u27 | 28 => u28 | 29 => u29 | 30 => u30 | 31 => u31 | 32 => u32 | 33 => u33 | 34 => u34 | 35 => u35 | 36 => u36 | 37 => u37 | 38 => u38 | 39 => u39 | 40 => u40 | _ => undef, rfl, fun h => (by rw [getD_replicate_false] at h; cases h), fun h => (by rw [getD_replicate_false] at h; cases h), fun h => (by rw [getD_replicate_false] at h; cases h), fun h => (by rw [getD_replicate_false] at h; cases h), fun h => (by rw [getD_replicate_false] at h; cases h), fun h => (by rw [getD_replicate_false] at h; cases h), fun h => (by rw [getD_replicate_false] at h; cases h), fun h => (by rw [getD_replicate_false] at h; cases h), fun h => (by rw [getD_replicate_false] at h; cases h), fun h => (by rw [getD_replicate_false] at h; cases h), fun h => (by rw [getD_replicate_false] at h; cases h), fun h => (by rw [getD_replicate_false] at h; cases h), fun h => (by rw [getD_replicate_false] at h; cases h), fun h => (by rw [getD_replicate_false] at h; cases h), fun h => (by rw [getD_replicate_false] at h; cases h), fun h => (by rw [getD_replicate_false] at h; cases h), fun h => (by rw [getD_replicate_false] at h; cases h), fun h => (by rw [getD_replicate_false] at h; cases h), fun h => (by rw [getD_replicate_false] at h; cases h), fun h => (by rw [getD_replicate_false] at h; cases h), fun h => (by rw [getD_replicate_false] at h; cases h), fun h => (by rw [getD_replicate_false] at h; cases h), ?_, ?_, ?_, ?_, hs.bel.drew, hcc, hs.xg⟩
        · rw [getD_replicate_false, getD_replicate_false]; unfold Comp; simp; exact hs.lv
        · rw [getD_replicate_false, getD_replicate_false]; unfold Comp; simp; exact hs.fin
        · rw [getD_replicate_false, getD_replicate_false]; unfold Comp; simp; exact hs.ws
        · rw [getD_replicate_false, getD_replicate_false, getD_replicate_false]; simp; exact hs.st
      · intro i o ho listed a wa hun hcl hdep _ hoth hnow hI
        have hi : i < 31 := by
          have := (Array.getElem?_eq_some_iff.1 ho).1
          simpa using this
        clear hs hcc hcC
        obtain ⟨x, rfl, hI⟩ := hI
        have hlg := hI.st.lt
        have hfg := hI.st.frozen
        rcases (by omega : i = 0 ∨ i = 1 ∨ i = 2 ∨ i = 3 ∨ i = 4 ∨ i = 5 ∨ i = 6 ∨ i = 7 ∨ i = 8 ∨ i = 9 ∨ i = 10 ∨ i = 11 ∨ i = 12 ∨ i = 13 ∨ i = 14 ∨ i = 15 ∨ i = 16 ∨ i = 17 ∨ i = 18 ∨ i = 19 ∨ i = 20 ∨ i = 21 ∨ i = 22 ∨ i = 23 ∨ i = 24 ∨ i = 25 ∨ i = 26 ∨ i = 27 ∨ i = 28 ∨ i = 29 ∨ i = 30) with rfl | rfl | rfl | rfl | rfl | rfl | rfl | rfl | rfl | rfl | rfl | rfl | rfl | rfl | rfl | rfl | rfl | rfl | rfl | rfl | rfl | rfl | rfl | rfl | rfl | rfl | rfl | rfl | rfl | rfl | rfl
        · simp only [List.getElem?_toArray, List.getElem?_cons_zero, List.getElem?_cons_succ, Option.some.injEq] at ho
          subst ho
          have o := fun j (hj : j ≠ 0) => hoth j hj
          unfold wpOp
          unfold FrmR
          go_simp
          refine .inl ⟨fun s => if s = 13 then .pointer (some ⟨g, 0, none⟩) else x s, by simp, ?_⟩
          exact ⟨fun _ => rfl, by simpa [o 1 (by decide)] using hI.q1, by simpa [o 2 (by decide)] using hI.q2, by simpa [o 3 (by decide)] using hI.q3, by simpa [o 4 (by decide)] using hI.q4, by simpa [o 5 (by decide)] using hI.q5, by simpa [o 6 (by decide)] using hI.q6, by simpa [o 9 (by decide)] using hI.q9, by simpa [o 10 (by decide)] using hI.q10, by simpa [o 11 (by decide)] using hI.q11, by simpa [o 12 (by decide)] using hI.q12, by simpa [o 15 (by decide)] using hI.q15, by simpa [o 16 (by decide)] using hI.q16, by simpa [o 17 (by decide)] using hI.q17, by simpa [o 18 (by decide)] using hI.q18, by simpa [o 19 (by decide)] using hI.q19, by simpa [o 22 (by decide)] using hI.q22, by simpa [o 23 (by decide)] using hI.q23, by simpa [o 25 (by decide)] using hI.q25, by simpa [o 26 (by decide)] using hI.q26, by simpa [o 28 (by decide)] using hI.q28, by simpa [o 29 (by decide)] using hI.q29, by simpa [o 7 (by decide), o 8 (by decide)] using hI.cA, by simpa [o 13 (by decide), o 14 (by decide)] using hI.cB, by simpa [o 20 (by decide), o 21 (by decide)] using hI.cC, by simpa [o 24 (by decide), o 27 (by decide), o 30 (by decide)] using hI.st, hI.bel, hI.cf, hI.xg⟩
        · simp only [List.getElem?_toArray, List.getElem?_cons_zero, List.getElem?_cons_succ, Option.some.injEq] at ho
          subst ho
          have o := fun j (hj : j ≠ 1) => hoth j hj
          unfold wpOp
          unfold FrmR
          go_simp
          refine .inl ⟨fun s => if s = 14 then .pointer (some ⟨g, 0, none⟩) else x s, by simp, ?_⟩
          exact ⟨by simpa [o 0 (by decide)] using hI.q0, fun _ => rfl, by simpa [o 2 (by decide)] using hI.q2, by simpa [o 3 (by decide)] using hI.q3, by simpa [o 4 (by decide)] using hI.q4, by simpa [o 5 (by decide)] using hI.q5, by simpa [o 6 (by decide)] using hI.q6, by simpa [o 9 (by decide)] using hI.q9, by simpa [o 10 (by decide)] using hI.q10, by simpa [o 11 (by decide)] using hI.q11, by simpa [o 12 (by decide)] using hI.q12, by simpa [o 15 (by decide)] using hI.q15, by simpa [o 16 (by decide)] using hI.q16, by simpa [o 17 (by decide)] using hI.q17, by simpa [o 18 (by decide)] using hI.q18, by simpa [o 19 (by decide)] using hI.q19, by simpa [o 22 (by decide)] using hI.q22, by simpa [o 23 (by decide)] using hI.q23, by simpa [o 25 (by decide)] using hI.q25, by simpa [o 26 (by decide)] using hI.q26, by simpa [o 28 (by decide)] using hI.q28, by simpa [o 29 (by decide)] using hI.q29, by simpa [o 7 (by decide), o 8 (by decide)] using hI.cA, by simpa [o 13 (by decide), o 14 (by decide)] using hI.cB, by simpa [o 20 (by decide), o 21 (by decide)] using hI.cC, by simpa [o 24 (by decide), o 27 (by decide), o 30 (by decide)] using hI.st, hI.bel, hI.cf, hI.xg⟩
        · simp only [List.getElem?_toArray, List.getElem?_cons_zero, List.getElem?_cons_succ, Option.some.injEq] at ho
          subst ho
          have o := fun j (hj : j ≠ 2) => hoth j hj
          unfold wpOp
          unfold FrmR
          go_simp
          refine .inl ⟨fun s => if s = 15 then .pointer (some ⟨g, 0, none⟩) else x s, by simp, ?_⟩
          exact ⟨by simpa [o 0 (by decide)] using hI.q0, by simpa [o 1 (by decide)] using hI.q1, fun _ => rfl, by simpa [o 3 (by decide)] using hI.q3, by simpa [o 4 (by decide)] using hI.q4, by simpa [o 5 (by decide)] using hI.q5, by simpa [o 6 (by decide)] using hI.q6, by simpa [o 9 (by decide)] using hI.q9, by simpa [o 10 (by decide)] using hI.q10, by simpa [o 11 (by decide)] using hI.q11, by simpa [o 12 (by decide)] using hI.q12, by simpa [o 15 (by decide)] using hI.q15, by simpa [o 16 (by decide)] using hI.q16, by simpa [o 17 (by decide)] using hI.q17, by simpa [o 18 (by decide)] using hI.q18, by simpa [o 19 (by decide)] using hI.q19, by simpa [o 22 (by decide)] using hI.q22, by simpa [o 23 (by decide)] using hI.q23, by simpa [o 25 (by decide)] using hI.q25, by simpa [o 26 (by decide)] using hI.q26, by simpa [o 28 (by decide)] using hI.q28, by simpa [o 29 (by decide)] using hI.q29, by simpa [o 7 (by decide), o 8 (by decide)] using hI.cA, by simpa [o 13 (by decide), o 14 (by decide)] using hI.cB, by simpa [o 20 (by decide), o 21 (by decide)] using hI.cC, by simpa [o 24 (by decide), o 27 (by decide), o 30 (by decide)] using hI.st, hI.bel, hI.cf, hI.xg⟩
        · simp only [List.getElem?_toArray, List.getElem?_cons_zero, List.getElem?_cons_succ, Option.some.injEq] at ho
          subst ho
          have o := fun j (hj : j ≠ 3) => hoth j hj
          unfold wpOp
          unfold FrmR
          go_simp
          refine .inl ⟨fun s => if s = 16 then .pointer (some ⟨g, 0, none⟩) else x s, by simp, ?_⟩
          exact ⟨by simpa [o 0 (by decide)] using hI.q0, by simpa [o 1 (by decide)] using hI.q1, by simpa [o 2 (by decide)] using hI.q2, fun _ => rfl, by simpa [o 4 (by decide)] using hI.q4, by simpa [o 5 (by decide)] using hI.q5, by simpa [o 6 (by decide)] using hI.q6, by simpa [o 9 (by decide)] using hI.q9, by simpa [o 10 (by decide)] using hI.q10, by simpa [o 11 (by decide)] using hI.q11, by simpa [o 12 (by decide)] using hI.q12, by simpa [o 15 (by decide)] using hI.q15, by simpa [o 16 (by decide)] using hI.q16, by simpa [o 17 (by decide)] using hI.q17, by simpa [o 18 (by decide)] using hI.q18, by simpa [o 19 (by decide)] using hI.q19, by simpa [o 22 (by decide)] using hI.q22, by simpa [o 23 (by decide)] using hI.q23, by simpa [o 25 (by decide)] using hI.q25, by simpa [o 26 (by decide)] using hI.q26, by simpa [o 28 (by decide)] using hI.q28, by simpa [o 29 (by decide)] using hI.q29, by simpa [o 7 (by decide), o 8 (by decide)] using hI.cA, by simpa [o 13 (by decide), o 14 (by decide)] using hI.cB, by simpa [o 20 (by decide), o 21 (by decide)] using hI.cC, by simpa [o 24 (by decide), o 27 (by decide), o 30 (by decide)] using hI.st, hI.bel, hI.cf, hI.xg⟩
        · simp only [List.getElem?_toArray, List.getElem?_cons_zero, List.getElem?_cons_succ, Option.some.injEq] at ho
          subst ho
          have o := fun j (hj : j ≠ 4) => hoth j hj
          have e3 := hI.q3 (hdep ⟨3, .data⟩ (by simp) rfl)
          unfold wpOp
          unfold FrmR
          go_simp
          refine .inl ⟨fun s => if s = 17 then .pointer (some ⟨g, 0, none⟩) else x s, by simp [e3], ?_⟩
          exact ⟨by simpa [o 0 (by decide)] using hI.q0, by simpa [o 1 (by decide)] using hI.q1, by simpa [o 2 (by decide)] using hI.q2, by simpa [o 3 (by decide)] using hI.q3, fun _ => rfl, by simpa [o 5 (by decide)] using hI.q5, by simpa [o 6 (by decide)] using hI.q6, by simpa [o 9 (by decide)] using hI.q9, by simpa [o 10 (by decide)] using hI.q10, by simpa [o 11 (by decide)] using hI.q11, by simpa [o 12 (by decide)] using hI.q12, by simpa [o 15 (by decide)] using hI.q15, by simpa [o 16 (by decide)] using hI.q16, by simpa [o 17 (by decide)] using hI.q17, by simpa [o 18 (by decide)] using hI.q18, by simpa [o 19 (by decide)] using hI.q19, by simpa [o 22 (by decide)] using hI.q22, by simpa [o 23 (by decide)] using hI.q23, by simpa [o 25 (by decide)] using hI.q25, by simpa [o 26 (by decide)] using hI.q26, by simpa [o 28 (by decide)] using hI.q28, by simpa [o 29 (by decide)] using hI.q29, by simpa [o 7 (by decide), o 8 (by decide)] using hI.cA, by simpa [o 13 (by decide), o 14 (by decide)] using hI.cB, by simpa [o 20 (by decide), o 21 (by decide)] using hI.cC, by simpa [o 24 (by decide), o 27 (by decide), o 30 (by decide)] using hI.st, hI.bel, hI.cf, hI.xg⟩
        · simp only [List.getElem?_toArray, List.getElem?_cons_zero, List.getElem?_cons_succ, Option.some.injEq] at ho
          subst ho
          have o := fun j (hj : j ≠ 5) => hoth j hj
          have e4 := hI.q4 (hdep ⟨4, .data⟩ (by simp) rfl)
          unfold wpOp
          unfold FrmR
          go_simp
          refine .inl ⟨fun s => if s = 18 then .pointer (some ⟨g, 0, none⟩) else x s, by simp [e4], ?_⟩
          exact ⟨by simpa [o 0 (by decide)] using hI.q0, by simpa [o 1 (by decide)] using hI.q1, by simpa [o 2 (by decide)] using hI.q2, by simpa [o 3 (by decide)] using hI.q3, by simpa [o 4 (by decide)] using hI.q4, fun _ => rfl, by simpa [o 6 (by decide)] using hI.q6, by simpa [o 9 (by decide)] using hI.q9, by simpa [o 10 (by decide)] using hI.q10, by simpa [o 11 (by decide)] using hI.q11, by simpa [o 12 (by decide)] using hI.q12, by simpa [o 15 (by decide)] using hI.q15, by simpa [o 16 (by decide)] using hI.q16, by simpa [o 17 (by decide)] using hI.q17, by simpa [o 18 (by decide)] using hI.q18, by simpa [o 19 (by decide)] using hI.q19, by simpa [o 22 (by decide)] using hI.q22, by simpa [o 23 (by decide)] using hI.q23, by simpa [o 25 (by decide)] using hI.q25, by simpa [o 26 (by decide)] using hI.q26, by simpa [o 28 (by decide)] using hI.q28, by simpa [o 29 (by decide)] using hI.q29, by simpa [o 7 (by decide), o 8 (by decide)] using hI.cA, by simpa [o 13 (by decide), o 14 (by decide)] using hI.cB, by simpa [o 20 (by decide), o 21 (by decide)] using hI.cC, by simpa [o 24 (by decide), o 27 (by decide), o 30 (by decide)] using hI.st, hI.bel, hI.cf, hI.xg⟩
        · simp only [List.getElem?_toArray, List.getElem?_cons_zero, List.getElem?_cons_succ, Option.some.injEq] at ho
          subst ho
          have o := fun j (hj : j ≠ 6) => hoth j hj
          have e5 := hI.q5 (hdep ⟨5, .data⟩ (by simp) rfl)
          have hns : listed.getD 24 false = false := by
            cases h : listed.getD 24 false with
            | false => rfl
            | true =>
              have ha := hcl 24 _ rfl h ⟨8, .data⟩ (by simp) rfl
              have hb := hcl 8 _ rfl ha ⟨6, .data⟩ (by simp) rfl
              rw [hun] at hb
              cases hb
          have hcell := hI.st.cell 0
          simp only [hns, Bool.false_eq_true, if_false] at hcell
          unfold wpOp
          unfold FrmR
          go_simp
          refine .inl ⟨fun s => if s = 19 then .slice A1 k p1 else x s, by simp [e5], ?_⟩
          exact ⟨by simpa [o 0 (by decide)] using hI.q0, by simpa [o 1 (by decide)] using hI.q1, by simpa [o 2 (by decide)] using hI.q2, by simpa [o 3 (by decide)] using hI.q3, by simpa [o 4 (by decide)] using hI.q4, by simpa [o 5 (by decide)] using hI.q5, fun _ => rfl, by simpa [o 9 (by decide)] using hI.q9, by simpa [o 10 (by decide)] using hI.q10, by simpa [o 11 (by decide)] using hI.q11, by simpa [o 12 (by decide)] using hI.q12, by simpa [o 15 (by decide)] using hI.q15, by simpa [o 16 (by decide)] using hI.q16, by simpa [o 17 (by decide)] using hI.q17, by simpa [o 18 (by decide)] using hI.q18, by simpa [o 19 (by decide)] using hI.q19, by simpa [o 22 (by decide)] using hI.q22, by simpa [o 23 (by decide)] using hI.q23, by simpa [o 25 (by decide)] using hI.q25, by simpa [o 26 (by decide)] using hI.q26, by simpa [o 28 (by decide)] using hI.q28, by simpa [o 29 (by decide)] using hI.q29, by simpa [o 7 (by decide), o 8 (by decide)] using hI.cA, by simpa [o 13 (by decide), o 14 (by decide)] using hI.cB, by simpa [o 20 (by decide), o 21 (by decide)] using hI.cC, by simpa [o 24 (by decide), o 27 (by decide), o 30 (by decide)] using hI.st, hI.bel, hI.cf, hI.xg⟩
        · simp only [List.getElem?_toArray, List.getElem?_cons_zero, List.getElem?_cons_succ, Option.some.injEq] at ho
          subst ho
          have o := fun j (hj : j ≠ 7) => hoth j hj
          have hns : listed.getD 8 false = false := by
            cases h : listed.getD 8 false with
            | false => rfl
            | true =>
              have ha := hcl 8 _ rfl h ⟨7, .data⟩ (by simp) rfl
              rw [hun] at ha
              cases ha
          have hcomp := Comp.lay (laid := listed.getD 7 false) (by simpa [hns] using hI.cA) (x 21)
          unfold wpOp
          unfold FrmR
          go_simp
          refine .inl ⟨fun s => if s = 20 then .slice (some ⟨wa.heap.size, 0, none⟩) 1 1 else x s, by simp, ?_⟩
          exact ⟨by simpa [o 0 (by decide)] using hI.q0, by simpa [o 1 (by decide)] using hI.q1, by simpa [o 2 (by decide)] using hI.q2, by simpa [o 3 (by decide)] using hI.q3, by simpa [o 4 (by decide)] using hI.q4, by simpa [o 5 (by decide)] using hI.q5, by simpa [o 6 (by decide)] using hI.q6, by simpa [o 9 (by decide)] using hI.q9, by simpa [o 10 (by decide)] using hI.q10, by simpa [o 11 (by decide)] using hI.q11, by simpa [o 12 (by decide)] using hI.q12, by simpa [o 15 (by decide)] using hI.q15, by simpa [o 16 (by decide)] using hI.q16, by simpa [o 17 (by decide)] using hI.q17, by simpa [o 18 (by decide)] using hI.q18, by simpa [o 19 (by decide)] using hI.q19, by simpa [o 22 (by decide)] using hI.q22, by simpa [o 23 (by decide)] using hI.q23, by simpa [o 25 (by decide)] using hI.q25, by simpa [o 26 (by decide)] using hI.q26, by simpa [o 28 (by decide)] using hI.q28, by simpa [o 29 (by decide)] using hI.q29, by simpa [hnow, o 8 (by decide), hns] using hcomp, by simpa [o 13 (by decide), o 14 (by decide)] using hI.cB.alloc _, by simpa [o 20 (by decide), o 21 (by decide)] using hI.cC.alloc _, by simpa [o 24 (by decide), o 27 (by decide), o 30 (by decide)] using hI.st.alloc _, hI.bel.alloc hI.bel.size _, hI.cf.alloc _, hI.xg⟩
        · simp only [List.getElem?_toArray, List.getElem?_cons_zero, List.getElem?_cons_succ, Option.some.injEq] at ho
          subst ho
          have o := fun j (hj : j ≠ 8) => hoth j hj
          have hl := hdep ⟨7, .data⟩ (by simp) rfl
          have ev := hI.q6 (hdep ⟨6, .data⟩ (by simp) rfl)
          simp only at hl ev
          have hcomp : Comp w.heap.size 3 1 (.slice A1 k p1) k (List.replicate k (.int .i64 (-1))) [.int .i64 (-1)] true false (x 20) (x 21) wa := by simpa [hl, hun] using hI.cA
          obtain ⟨bn, hxn, hbn⟩ := hcomp.elem
          have hrow := hcomp.row
          have hlow := hrow.lt
          have hns : listed.getD 24 false = false := by
            cases h : listed.getD 24 false with
            | false => rfl
            | true =>
              have ha := hcl 24 _ rfl h ⟨8, .data⟩ (by simp) rfl
              rw [hun] at ha
              cases ha
          unfold wpOp
          simp only [List.getElem?_toArray, List.getElem?_cons_zero, List.getElem?_cons_succ]
          rw [if_pos (by rfl)]
          refine .inl ?_
          refine wp_append_lies _ _ _ 23 (by rfl) w.heap.size 3 i0 (.int .i64 0) 1 8 Tryz.underlying23 hi0 hz0 hs0 hb0 (by rfl) (by decide) (.slice A1 k p1) k (List.replicate k (.int .i64 (-1))) (by simpa [FrmR, Act.eval] using ev) hrow ⟨bn, 0, none⟩ 1 1 [.int .i64 (-1)] (by simpa [FrmR, Act.eval] using hxn) (by rfl) (news_blk hbn) (by intro u hu; simp at hu; rcases hu with rfl <;> rfl) (by decide) (by unfold maxLen; omega) (by omega) hI.bel.size _ (by rfl) ?_
          intro g1 cap w' hown hgr _ _
          refine ⟨fun s => if s = 21 then .slice (some ⟨g1, 0, none⟩) (k + 1) cap else x s, by simp [FrmR, Act.put], ?_⟩
          exact ⟨by simpa [o 0 (by decide)] using hI.q0, by simpa [o 1 (by decide)] using hI.q1, by simpa [o 2 (by decide)] using hI.q2, by simpa [o 3 (by decide)] using hI.q3, by simpa [o 4 (by decide)] using hI.q4, by simpa [o 5 (by decide)] using hI.q5, by simpa [o 6 (by decide)] using hI.q6, by simpa [o 9 (by decide)] using hI.q9, by simpa [o 10 (by decide)] using hI.q10, by simpa [o 11 (by decide)] using hI.q11, by simpa [o 12 (by decide)] using hI.q12, by simpa [o 15 (by decide)] using hI.q15, by simpa [o 16 (by decide)] using hI.q16, by simpa [o 17 (by decide)] using hI.q17, by simpa [o 18 (by decide)] using hI.q18, by simpa [o 19 (by decide)] using hI.q19, by simpa [o 22 (by decide)] using hI.q22, by simpa [o 23 (by decide)] using hI.q23, by simpa [o 25 (by decide)] using hI.q25, by simpa [o 26 (by decide)] using hI.q26, by simpa [o 28 (by decide)] using hI.q28, by simpa [o 29 (by decide)] using hI.q29, by simpa [hnow, o 7 (by decide)] using Comp.fin (laid := listed.getD 7 false) (x := x 20) (v0 := .slice A1 k p1) hown, by simpa [o 13 (by decide), o 14 (by decide)] using hI.cB.grown hrow hgr (by decide), by simpa [o 20 (by decide), o 21 (by decide)] using hI.cC.grown hrow hgr (by decide), by simpa [o 24 (by decide), o 27 (by decide), o 30 (by decide), hns] using hI.st.grown hgr (blk_row hI.st hrow (by decide)), below_grown hI.bel hgr hI.bel.size (fun x e => (hlow x e).1), hI.cf.grown hgr (blk_row hI.cf hrow (by decide)), hI.xg⟩
        · simp only [List.getElem?_toArray, List.getElem?_cons_zero, List.getElem?_cons_succ, Option.some.injEq] at ho
          subst ho
          have o := fun j (hj : j ≠ 9) => hoth j hj
          unfold wpOp
          unfold FrmR
          go_simp
          refine .inl ⟨fun s => if s = 22 then .pointer (some ⟨g, 0, none⟩) else x s, by simp, ?_⟩
          exact ⟨by simpa [o 0 (by decide)] using hI.q0, by simpa [o 1 (by decide)] using hI.q1, by simpa [o 2 (by decide)] using hI.q2, by simpa [o 3 (by decide)] using hI.q3, by simpa [o 4 (by decide)] using hI.q4, by simpa [o 5 (by decide)] using hI.q5, by simpa [o 6 (by decide)] using hI.q6, fun _ => rfl, by simpa [o 10 (by decide)] using hI.q10, by simpa [o 11 (by decide)] using hI.q11, by simpa [o 12 (by decide)] using hI.q12, by simpa [o 15 (by decide)] using hI.q15, by simpa [o 16 (by decide)] using hI.q16, by simpa [o 17 (by decide)] using hI.q17, by simpa [o 18 (by decide)] using hI.q18, by simpa [o 19 (by decide)] using hI.q19, by simpa [o 22 (by decide)] using hI.q22, by simpa [o 23 (by decide)] using hI.q23, by simpa [o 25 (by decide)] using hI.q25, by simpa [o 26 (by decide)] using hI.q26, by simpa [o 28 (by decide)] using hI.q28, by simpa [o 29 (by decide)] using hI.q29, by simpa [o 7 (by decide), o 8 (by decide)] using hI.cA, by simpa [o 13 (by decide), o 14 (by decide)] using hI.cB, by simpa [o 20 (by decide), o 21 (by decide)] using hI.cC, by simpa [o 24 (by decide), o 27 (by decide), o 30 (by decide)] using hI.st, hI.bel, hI.cf, hI.xg⟩
        · simp only [List.getElem?_toArray, List.getElem?_cons_zero, List.getElem?_cons_succ, Option.some.injEq] at ho
          subst ho
          have o := fun j (hj : j ≠ 10) => hoth j hj
          have e9 := hI.q9 (hdep ⟨9, .data⟩ (by simp) rfl)
          unfold wpOp
          unfold FrmR
          go_simp
          refine .inl ⟨fun s => if s = 23 then .pointer (some ⟨g, 0, none⟩) else x s, by simp [e9], ?_⟩
          exact ⟨by simpa [o 0 (by decide)] using hI.q0, by simpa [o 1 (by decide)] using hI.q1, by simpa [o 2 (by decide)] using hI.q2, by simpa [o 3 (by decide)] using hI.q3, by simpa [o 4 (by decide)] using hI.q4, by simpa [o 5 (by decide)] using hI.q5, by simpa [o 6 (by decide)] using hI.q6, by simpa [o 9 (by decide)] using hI.q9, fun _ => rfl, by simpa [o 11 (by decide)] using hI.q11, by simpa [o 12 (by decide)] using hI.q12, by simpa [o 15 (by decide)] using hI.q15, by simpa [o 16 (by decide)] using hI.q16, by simpa [o 17 (by decide)] using hI.q17, by simpa [o 18 (by decide)] using hI.q18, by simpa [o 19 (by decide)] using hI.q19, by simpa [o 22 (by decide)] using hI.q22, by simpa [o 23 (by decide)] using hI.q23, by simpa [o 25 (by decide)] using hI.q25, by simpa [o 26 (by decide)] using hI.q26, by simpa [o 28 (by decide)] using hI.q28, by simpa [o 29 (by decide)] using hI.q29, by simpa [o 7 (by decide), o 8 (by decide)] using hI.cA, by simpa [o 13 (by decide), o 14 (by decide)] using hI.cB, by simpa [o 20 (by decide), o 21 (by decide)] using hI.cC, by simpa [o 24 (by decide), o 27 (by decide), o 30 (by decide)] using hI.st, hI.bel, hI.cf, hI.xg⟩
        · simp only [List.getElem?_toArray, List.getElem?_cons_zero, List.getElem?_cons_succ, Option.some.injEq] at ho
          subst ho
          have o := fun j (hj : j ≠ 11) => hoth j hj
          have e10 := hI.q10 (hdep ⟨10, .data⟩ (by simp) rfl)
          unfold wpOp
          unfold FrmR
          go_simp
          refine .inl ⟨fun s => if s = 24 then .pointer (some ⟨g, 1, none⟩) else x s, by simp [e10], ?_⟩
          exact ⟨by simpa [o 0 (by decide)] using hI.q0, by simpa [o 1 (by decide)] using hI.q1, by simpa [o 2 (by decide)] using hI.q2, by simpa [o 3 (by decide)] using hI.q3, by simpa [o 4 (by decide)] using hI.q4, by simpa [o 5 (by decide)] using hI.q5, by simpa [o 6 (by decide)] using hI.q6, by simpa [o 9 (by decide)] using hI.q9, by simpa [o 10 (by decide)] using hI.q10, fun _ => rfl, by simpa [o 12 (by decide)] using hI.q12, by simpa [o 15 (by decide)] using hI.q15, by simpa [o 16 (by decide)] using hI.q16, by simpa [o 17 (by decide)] using hI.q17, by simpa [o 18 (by decide)] using hI.q18, by simpa [o 19 (by decide)] using hI.q19, by simpa [o 22 (by decide)] using hI.q22, by simpa [o 23 (by decide)] using hI.q23, by simpa [o 25 (by decide)] using hI.q25, by simpa [o 26 (by decide)] using hI.q26, by simpa [o 28 (by decide)] using hI.q28, by simpa [o 29 (by decide)] using hI.q29, by simpa [o 7 (by decide), o 8 (by decide)] using hI.cA, by simpa [o 13 (by decide), o 14 (by decide)] using hI.cB, by simpa [o 20 (by decide), o 21 (by decide)] using hI.cC, by simpa [o 24 (by decide), o 27 (by decide), o 30 (by decide)] using hI.st, hI.bel, hI.cf, hI.xg⟩
        · simp only [List.getElem?_toArray, List.getElem?_cons_zero, List.getElem?_cons_succ, Option.some.injEq] at ho
          subst ho
          have o := fun j (hj : j ≠ 12) => hoth j hj
          have e11 := hI.q11 (hdep ⟨11, .data⟩ (by simp) rfl)
          have hns : listed.getD 27 false = false := by
            cases h : listed.getD 27 false with
            | false => rfl
            | true =>
              have ha := hcl 27 _ rfl h ⟨14, .data⟩ (by simp) rfl
              have hb := hcl 14 _ rfl ha ⟨12, .data⟩ (by simp) rfl
              rw [hun] at hb
              cases hb
          have hcell := hI.st.cell 1
          simp only [hns, Bool.false_eq_true, if_false] at hcell
          unfold wpOp
          unfold FrmR
          go_simp
          refine .inl ⟨fun s => if s = 25 then .slice A2 k p2 else x s, by simp [e11], ?_⟩
          exact ⟨by simpa [o 0 (by decide)] using hI.q0, by simpa [o 1 (by decide)] using hI.q1, by simpa [o 2 (by decide)] using hI.q2, by simpa [o 3 (by decide)] using hI.q3, by simpa [o 4 (by decide)] using hI.q4, by simpa [o 5 (by decide)] using hI.q5, by simpa [o 6 (by decide)] using hI.q6, by simpa [o 9 (by decide)] using hI.q9, by simpa [o 10 (by decide)] using hI.q10, by simpa [o 11 (by decide)] using hI.q11, fun _ => rfl, by simpa [o 15 (by decide)] using hI.q15, by simpa [o 16 (by decide)] using hI.q16, by simpa [o 17 (by decide)] using hI.q17, by simpa [o 18 (by decide)] using hI.q18, by simpa [o 19 (by decide)] using hI.q19, by simpa [o 22 (by decide)] using hI.q22, by simpa [o 23 (by decide)] using hI.q23, by simpa [o 25 (by decide)] using hI.q25, by simpa [o 26 (by decide)] using hI.q26, by simpa [o 28 (by decide)] using hI.q28, by simpa [o 29 (by decide)] using hI.q29, by simpa [o 7 (by decide), o 8 (by decide)] using hI.cA, by simpa [o 13 (by decide), o 14 (by decide)] using hI.cB, by simpa [o 20 (by decide), o 21 (by decide)] using hI.cC, by simpa [o 24 (by decide), o 27 (by decide), o 30 (by decide)] using hI.st, hI.bel, hI.cf, hI.xg⟩
        · simp only [List.getElem?_toArray, List.getElem?_cons_zero, List.getElem?_cons_succ, Option.some.injEq] at ho
          subst ho
          have o := fun j (hj : j ≠ 13) => hoth j hj
          have hns : listed.getD 14 false = false := by
            cases h : listed.getD 14 false with
            | false => rfl
            | true =>
              have ha := hcl 14 _ rfl h ⟨13, .data⟩ (by simp) rfl
              rw [hun] at ha
              cases ha
          have hcomp := Comp.lay (laid := listed.getD 13 false) (by simpa [hns] using hI.cB) (x 27)
          unfold wpOp
          unfold FrmR
          go_simp
          refine .inl ⟨fun s => if s = 26 then .slice (some ⟨wa.heap.size, 0, none⟩) 1 1 else x s, by simp, ?_⟩
          exact ⟨by simpa [o 0 (by decide)] using hI.q0, by simpa [o 1 (by decide)] using hI.q1, by simpa [o 2 (by decide)] using hI.q2, by simpa [o 3 (by decide)] using hI.q3, by simpa [o 4 (by decide)] using hI.q4, by simpa [o 5 (by decide)] using hI.q5, by simpa [o 6 (by decide)] using hI.q6, by simpa [o 9 (by decide)] using hI.q9, by simpa [o 10 (by decide)] using hI.q10, by simpa [o 11 (by decide)] using hI.q11, by simpa [o 12 (by decide)] using hI.q12, by simpa [o 15 (by decide)] using hI.q15, by simpa [o 16 (by decide)] using hI.q16, by simpa [o 17 (by decide)] using hI.q17, by simpa [o 18 (by decide)] using hI.q18, by simpa [o 19 (by decide)] using hI.q19, by simpa [o 22 (by decide)] using hI.q22, by simpa [o 23 (by decide)] using hI.q23, by simpa [o 25 (by decide)] using hI.q25, by simpa [o 26 (by decide)] using hI.q26, by simpa [o 28 (by decide)] using hI.q28, by simpa [o 29 (by decide)] using hI.q29, by simpa [o 7 (by decide), o 8 (by decide)] using hI.cA.alloc _, by simpa [hnow, o 14 (by decide), hns] using hcomp, by simpa [o 20 (by decide), o 21 (by decide)] using hI.cC.alloc _, by simpa [o 24 (by decide), o 27 (by decide), o 30 (by decide)] using hI.st.alloc _, hI.bel.alloc hI.bel.size _, hI.cf.alloc _, hI.xg⟩
        · simp only [List.getElem?_toArray, List.getElem?_cons_zero, List.getElem?_cons_succ, Option.some.injEq] at ho
          subst ho
          have o := fun j (hj : j ≠ 14) => hoth j hj
          have hl := hdep ⟨13, .data⟩ (by simp) rfl
          have ev := hI.q12 (hdep ⟨12, .data⟩ (by simp) rfl)
          simp only at hl ev
          have hcomp : Comp w.heap.size 4 1 (.slice A2 k p2) k (List.replicate k (.bool false)) [.bool false] true false (x 26) (x 27) wa := by simpa [hl, hun] using hI.cB
          obtain ⟨bn, hxn, hbn⟩ := hcomp.elem
          have hrow := hcomp.row
          have hlow := hrow.lt
          have hns : listed.getD 27 false = false := by
            cases h : listed.getD 27 false with
            | false => rfl
            | true =>
              have ha := hcl 27 _ rfl h ⟨14, .data⟩ (by simp) rfl
              rw [hun] at ha
              cases ha
          unfold wpOp
          simp only [List.getElem?_toArray, List.getElem?_cons_zero, List.getElem?_cons_succ]
          rw [if_pos (by rfl)]
          refine .inl ?_
          refine wp_append_lies _ _ _ 133 (by rfl) w.heap.size 4 i1 (.bool false) 1 1 Tryz.underlying133 hi1 hz1 hs1 hb1 (by rfl) (by decide) (.slice A2 k p2) k (List.replicate k (.bool false)) (by simpa [FrmR, Act.eval] using ev) hrow ⟨bn, 0, none⟩ 1 1 [.bool false] (by simpa [FrmR, Act.eval] using hxn) (by rfl) (news_blk hbn) (by intro u hu; simp at hu; rcases hu with rfl <;> rfl) (by decide) (by unfold maxLen; omega) (by omega) hI.bel.size _ (by rfl) ?_
          intro g1 cap w' hown hgr _ _
          refine ⟨fun s => if s = 27 then .slice (some ⟨g1, 0, none⟩) (k + 1) cap else x s, by simp [FrmR, Act.put], ?_⟩
          exact ⟨by simpa [o 0 (by decide)] using hI.q0, by simpa [o 1 (by decide)] using hI.q1, by simpa [o 2 (by decide)] using hI.q2, by simpa [o 3 (by decide)] using hI.q3, by simpa [o 4 (by decide)] using hI.q4, by simpa [o 5 (by decide)] using hI.q5, by simpa [o 6 (by decide)] using hI.q6, by simpa [o 9 (by decide)] using hI.q9, by simpa [o 10 (by decide)] using hI.q10, by simpa [o 11 (by decide)] using hI.q11, by simpa [o 12 (by decide)] using hI.q12, by simpa [o 15 (by decide)] using hI.q15, by simpa [o 16 (by decide)] using hI.q16, by simpa [o 17 (by decide)] using hI.q17, by simpa [o 18 (by decide)] using hI.q18, by simpa [o 19 (by decide)] using hI.q19, by simpa [o 22 (by decide)] using hI.q22, by simpa [o 23 (by decide)] using hI.q23, by simpa [o 25 (by decide)] using hI.q25, by simpa [o 26 (by decide)] using hI.q26, by simpa [o 28 (by decide)] using hI.q28, by simpa [o 29 (by decide)] using hI.q29, by simpa [o 7 (by decide), o 8 (by decide)] using hI.cA.grown hrow hgr (by decide), by simpa [hnow, o 13 (by decide)] using Comp.fin (laid := listed.getD 13 false) (x := x 26) (v0 := .slice A2 k p2) hown, by simpa [o 20 (by decide), o 21 (by decide)] using hI.cC.grown hrow hgr (by decide), by simpa [o 24 (by decide), o 27 (by decide), o 30 (by decide), hns] using hI.st.grown hgr (blk_row hI.st hrow (by decide)), below_grown hI.bel hgr hI.bel.size (fun x e => (hlow x e).1), hI.cf.grown hgr (blk_row hI.cf hrow (by decide)), hI.xg⟩
        · simp only [List.getElem?_toArray, List.getElem?_cons_zero, List.getElem?_cons_succ, Option.some.injEq] at ho
          subst ho
          have o := fun j (hj : j ≠ 15) => hoth j hj
          unfold wpOp
          unfold FrmR
          go_simp
          refine .inl ⟨fun s => if s = 28 then .pointer (some ⟨g, 0, none⟩) else x s, by simp, ?_⟩
          exact ⟨by simpa [o 0 (by decide)] using hI.q0, by simpa [o 1 (by decide)] using hI.q1, by simpa [o 2 (by decide)] using hI.q2, by simpa [o 3 (by decide)] using hI.q3, by simpa [o 4 (by decide)] using hI.q4, by simpa [o 5 (by decide)] using hI.q5, by simpa [o 6 (by decide)] using hI.q6, by simpa [o 9 (by decide)] using hI.q9, by simpa [o 10 (by decide)] using hI.q10, by simpa [o 11 (by decide)] using hI.q11, by simpa [o 12 (by decide)] using hI.q12, fun _ => rfl, by simpa [o 16 (by decide)] using hI.q16, by simpa [o 17 (by decide)] using hI.q17, by simpa [o 18 (by decide)] using hI.q18, by simpa [o 19 (by decide)] using hI.q19, by simpa [o 22 (by decide)] using hI.q22, by simpa [o 23 (by decide)] using hI.q23, by simpa [o 25 (by decide)] using hI.q25, by simpa [o 26 (by decide)] using hI.q26, by simpa [o 28 (by decide)] using hI.q28, by simpa [o 29 (by decide)] using hI.q29, by simpa [o 7 (by decide), o 8 (by decide)] using hI.cA, by simpa [o 13 (by decide), o 14 (by decide)] using hI.cB, by simpa [o 20 (by decide), o 21 (by decide)] using hI.cC, by simpa [o 24 (by decide), o 27 (by decide), o 30 (by decide)] using hI.st, hI.bel, hI.cf, hI.xg⟩
        · simp only [List.getElem?_toArray, List.getElem?_cons_zero, List.getElem?_cons_succ, Option.some.injEq] at ho
          subst ho
          have o := fun j (hj : j ≠ 16) => hoth j hj
          have e15 := hI.q15 (hdep ⟨15, .data⟩ (by simp) rfl)
          unfold wpOp
          unfold FrmR
          go_simp
          refine .inl ⟨fun s => if s = 29 then .pointer (some ⟨g, 0, none⟩) else x s, by simp [e15], ?_⟩
          exact ⟨by simpa [o 0 (by decide)] using hI.q0, by simpa [o 1 (by decide)] using hI.q1, by simpa [o 2 (by decide)] using hI.q2, by simpa [o 3 (by decide)] using hI.q3, by simpa [o 4 (by decide)] using hI.q4, by simpa [o 5 (by decide)] using hI.q5, by simpa [o 6 (by decide)] using hI.q6, by simpa [o 9 (by decide)] using hI.q9, by simpa [o 10 (by decide)] using hI.q10, by simpa [o 11 (by decide)] using hI.q11, by simpa [o 12 (by decide)] using hI.q12, by simpa [o 15 (by decide)] using hI.q15, fun _ => rfl, by simpa [o 17 (by decide)] using hI.q17, by simpa [o 18 (by decide)] using hI.q18, by simpa [o 19 (by decide)] using hI.q19, by simpa [o 22 (by decide)] using hI.q22, by simpa [o 23 (by decide)] using hI.q23, by simpa [o 25 (by decide)] using hI.q25, by simpa [o 26 (by decide)] using hI.q26, by simpa [o 28 (by decide)] using hI.q28, by simpa [o 29 (by decide)] using hI.q29, by simpa [o 7 (by decide), o 8 (by decide)] using hI.cA, by simpa [o 13 (by decide), o 14 (by decide)] using hI.cB, by simpa [o 20 (by decide), o 21 (by decide)] using hI.cC, by simpa [o 24 (by decide), o 27 (by decide), o 30 (by decide)] using hI.st, hI.bel, hI.cf, hI.xg⟩
        · simp only [List.getElem?_toArray, List.getElem?_cons_zero, List.getElem?_cons_succ, Option.some.injEq] at ho
          subst ho
          have o := fun j (hj : j ≠ 17) => hoth j hj
          have e16 := hI.q16 (hdep ⟨16, .data⟩ (by simp) rfl)
          unfold wpOp
          unfold FrmR
          go_simp
          refine .inl ⟨fun s => if s = 30 then .pointer (some ⟨g, 2, none⟩) else x s, by simp [e16], ?_⟩
          exact ⟨by simpa [o 0 (by decide)] using hI.q0, by simpa [o 1 (by decide)] using hI.q1, by simpa [o 2 (by decide)] using hI.q2, by simpa [o 3 (by decide)] using hI.q3, by simpa [o 4 (by decide)] using hI.q4, by simpa [o 5 (by decide)] using hI.q5, by simpa [o 6 (by decide)] using hI.q6, by simpa [o 9 (by decide)] using hI.q9, by simpa [o 10 (by decide)] using hI.q10, by simpa [o 11 (by decide)] using hI.q11, by simpa [o 12 (by decide)] using hI.q12, by simpa [o 15 (by decide)] using hI.q15, by simpa [o 16 (by decide)] using hI.q16, fun _ => rfl, by simpa [o 18 (by decide)] using hI.q18, by simpa [o 19 (by decide)] using hI.q19, by simpa [o 22 (by decide)] using hI.q22, by simpa [o 23 (by decide)] using hI.q23, by simpa [o 25 (by decide)] using hI.q25, by simpa [o 26 (by decide)] using hI.q26, by simpa [o 28 (by decide)] using hI.q28, by simpa [o 29 (by decide)] using hI.q29, by simpa [o 7 (by decide), o 8 (by decide)] using hI.cA, by simpa [o 13 (by decide), o 14 (by decide)] using hI.cB, by simpa [o 20 (by decide), o 21 (by decide)] using hI.cC, by simpa [o 24 (by decide), o 27 (by decide), o 30 (by decide)] using hI.st, hI.bel, hI.cf, hI.xg⟩
        · simp only [List.getElem?_toArray, List.getElem?_cons_zero, List.getElem?_cons_succ, Option.some.injEq] at ho
          subst ho
          have o := fun j (hj : j ≠ 18) => hoth j hj
          have e17 := hI.q17 (hdep ⟨17, .data⟩ (by simp) rfl)
          have hns : listed.getD 30 false = false := by
            cases h : listed.getD 30 false with
            | false => rfl
            | true =>
              have ha := hcl 30 _ rfl h ⟨21, .data⟩ (by simp) rfl
              have hb := hcl 21 _ rfl ha ⟨18, .data⟩ (by simp) rfl
              rw [hun] at hb
              cases hb
          have hcell := hI.st.cell 2
          simp only [hns, Bool.false_eq_true, if_false] at hcell
          unfold wpOp
          unfold FrmR
          go_simp
          refine .inl ⟨fun s => if s = 31 then .slice A3 k p3 else x s, by simp [e17], ?_⟩
          exact ⟨by simpa [o 0 (by decide)] using hI.q0, by simpa [o 1 (by decide)] using hI.q1, by simpa [o 2 (by decide)] using hI.q2, by simpa [o 3 (by decide)] using hI.q3, by simpa [o 4 (by decide)] using hI.q4, by simpa [o 5 (by decide)] using hI.q5, by simpa [o 6 (by decide)] using hI.q6, by simpa [o 9 (by decide)] using hI.q9, by simpa [o 10 (by decide)] using hI.q10, by simpa [o 11 (by decide)] using hI.q11, by simpa [o 12 (by decide)] using hI.q12, by simpa [o 15 (by decide)] using hI.q15, by simpa [o 16 (by decide)] using hI.q16, by simpa [o 17 (by decide)] using hI.q17, fun _ => rfl, by simpa [o 19 (by decide)] using hI.q19, by simpa [o 22 (by decide)] using hI.q22, by simpa [o 23 (by decide)] using hI.q23, by simpa [o 25 (by decide)] using hI.q25, by simpa [o 26 (by decide)] using hI.q26, by simpa [o 28 (by decide)] using hI.q28, by simpa [o 29 (by decide)] using hI.q29, by simpa [o 7 (by decide), o 8 (by decide)] using hI.cA, by simpa [o 13 (by decide), o 14 (by decide)] using hI.cB, by simpa [o 20 (by decide), o 21 (by decide)] using hI.cC, by simpa [o 24 (by decide), o 27 (by decide), o 30 (by decide)] using hI.st, hI.bel, hI.cf, hI.xg⟩
        · simp only [List.getElem?_toArray, List.getElem?_cons_zero, List.getElem?_cons_succ, Option.some.injEq] at ho
          subst ho
          have o := fun j (hj : j ≠ 19) => hoth j hj
          unfold wpOp
          unfold FrmR
          go_simp
          refine .inl ⟨fun s => if s = 32 then .agg #[.bool false, .bool false, .int .i64 0, .int .i64 0, .int .i64 0] else x s, by simp, ?_⟩
          exact ⟨by simpa [o 0 (by decide)] using hI.q0, by simpa [o 1 (by decide)] using hI.q1, by simpa [o 2 (by decide)] using hI.q2, by simpa [o 3 (by decide)] using hI.q3, by simpa [o 4 (by decide)] using hI.q4, by simpa [o 5 (by decide)] using hI.q5, by simpa [o 6 (by decide)] using hI.q6, by simpa [o 9 (by decide)] using hI.q9, by simpa [o 10 (by decide)] using hI.q10, by simpa [o 11 (by decide)] using hI.q11, by simpa [o 12 (by decide)] using hI.q12, by simpa [o 15 (by decide)] using hI.q15, by simpa [o 16 (by decide)] using hI.q16, by simpa [o 17 (by decide)] using hI.q17, by simpa [o 18 (by decide)] using hI.q18, fun _ => rfl, by simpa [o 22 (by decide)] using hI.q22, by simpa [o 23 (by decide)] using hI.q23, by simpa [o 25 (by decide)] using hI.q25, by simpa [o 26 (by decide)] using hI.q26, by simpa [o 28 (by decide)] using hI.q28, by simpa [o 29 (by decide)] using hI.q29, by simpa [o 7 (by decide), o 8 (by decide)] using hI.cA, by simpa [o 13 (by decide), o 14 (by decide)] using hI.cB, by simpa [o 20 (by decide), o 21 (by decide)] using hI.cC, by simpa [o 24 (by decide), o 27 (by decide), o 30 (by decide)] using hI.st, hI.bel, hI.cf, hI.xg⟩
        · simp only [List.getElem?_toArray, List.getElem?_cons_zero, List.getElem?_cons_succ, Option.some.injEq] at ho
          subst ho
          have o := fun j (hj : j ≠ 20) => hoth j hj
          have hns : listed.getD 21 false = false := by
            cases h : listed.getD 21 false with
            | false => rfl
            | true =>
              have ha := hcl 21 _ rfl h ⟨20, .data⟩ (by simp) rfl
              rw [hun] at ha
              cases ha
          have e19 := hI.q19 (hdep ⟨19, .data⟩ (by simp) rfl)
          have hcomp := Comp.lay (laid := listed.getD 20 false) (by simpa [hns] using hI.cC) (x 34)
          unfold wpOp
          unfold FrmR
          go_simp
          refine .inl ⟨fun s => if s = 33 then .slice (some ⟨wa.heap.size, 0, none⟩) 1 1 else x s, by simp [e19], ?_⟩
          exact ⟨by simpa [o 0 (by decide)] using hI.q0, by simpa [o 1 (by decide)] using hI.q1, by simpa [o 2 (by decide)] using hI.q2, by simpa [o 3 (by decide)] using hI.q3, by simpa [o 4 (by decide)] using hI.q4, by simpa [o 5 (by decide)] using hI.q5, by simpa [o 6 (by decide)] using hI.q6, by simpa [o 9 (by decide)] using hI.q9, by simpa [o 10 (by decide)] using hI.q10, by simpa [o 11 (by decide)] using hI.q11, by simpa [o 12 (by decide)] using hI.q12, by simpa [o 15 (by decide)] using hI.q15, by simpa [o 16 (by decide)] using hI.q16, by simpa [o 17 (by decide)] using hI.q17, by simpa [o 18 (by decide)] using hI.q18, by simpa [o 19 (by decide)] using hI.q19, by simpa [o 22 (by decide)] using hI.q22, by simpa [o 23 (by decide)] using hI.q23, by simpa [o 25 (by decide)] using hI.q25, by simpa [o 26 (by decide)] using hI.q26, by simpa [o 28 (by decide)] using hI.q28, by simpa [o 29 (by decide)] using hI.q29, by simpa [o 7 (by decide), o 8 (by decide)] using hI.cA.alloc _, by simpa [o 13 (by decide), o 14 (by decide)] using hI.cB.alloc _, by simpa [hnow, o 21 (by decide), hns] using hcomp, by simpa [o 24 (by decide), o 27 (by decide), o 30 (by decide)] using hI.st.alloc _, hI.bel.alloc hI.bel.size _, hI.cf.alloc _, hI.xg⟩
        · simp only [List.getElem?_toArray, List.getElem?_cons_zero, List.getElem?_cons_succ, Option.some.injEq] at ho
          subst ho
          have o := fun j (hj : j ≠ 21) => hoth j hj
          have hl := hdep ⟨20, .data⟩ (by simp) rfl
          have ev := hI.q18 (hdep ⟨18, .data⟩ (by simp) rfl)
          simp only at hl ev
          have hcomp : Comp w.heap.size 174 5 (.slice A3 k p3) k ((List.replicate k (none : Option Wt)).flatMap encW) [.bool false, .bool false, .int .i64 0, .int .i64 0, .int .i64 0] true false (x 33) (x 34) wa := by simpa [hl, hun] using hI.cC
          obtain ⟨bn, hxn, hbn⟩ := hcomp.elem
          have hrow := hcomp.row
          have hlow := hrow.lt
          have hns : listed.getD 30 false = false := by
            cases h : listed.getD 30 false with
            | false => rfl
            | true =>
              have ha := hcl 30 _ rfl h ⟨21, .data⟩ (by simp) rfl
              rw [hun] at ha
              cases ha
          unfold wpOp
          simp only [List.getElem?_toArray, List.getElem?_cons_zero, List.getElem?_cons_succ]
          rw [if_pos (by rfl)]
          refine .inl ?_
          refine wp_append_lies _ _ _ 139 (by rfl) w.heap.size 174 i2 (.agg #[.bool false, .bool false, .int .i64 0, .int .i64 0, .int .i64 0]) 5 32 Tryz.underlying139 hi2 hz2 hs2 hb2 (by rfl) (by decide) (.slice A3 k p3) k ((List.replicate k (none : Option Wt)).flatMap encW) (by simpa [FrmR, Act.eval] using ev) hrow ⟨bn, 0, none⟩ 1 1 [.bool false, .bool false, .int .i64 0, .int .i64 0, .int .i64 0] (by simpa [FrmR, Act.eval] using hxn) (by rfl) (news_blk hbn) (by intro u hu; simp at hu; rcases hu with rfl | rfl | rfl | rfl | rfl <;> rfl) (by decide) (by unfold maxLen; omega) (by omega) hI.bel.size _ (by rfl) ?_
          intro g1 cap w' hown hgr _ _
          refine ⟨fun s => if s = 34 then .slice (some ⟨g1, 0, none⟩) (k + 1) cap else x s, by simp [FrmR, Act.put], ?_⟩
          exact ⟨by simpa [o 0 (by decide)] using hI.q0, by simpa [o 1 (by decide)] using hI.q1, by simpa [o 2 (by decide)] using hI.q2, by simpa [o 3 (by decide)] using hI.q3, by simpa [o 4 (by decide)] using hI.q4, by simpa [o 5 (by decide)] using hI.q5, by simpa [o 6 (by decide)] using hI.q6, by simpa [o 9 (by decide)] using hI.q9, by simpa [o 10 (by decide)] using hI.q10, by simpa [o 11 (by decide)] using hI.q11, by simpa [o 12 (by decide)] using hI.q12, by simpa [o 15 (by decide)] using hI.q15, by simpa [o 16 (by decide)] using hI.q16, by simpa [o 17 (by decide)] using hI.q17, by simpa [o 18 (by decide)] using hI.q18, by simpa [o 19 (by decide)] using hI.q19, by simpa [o 22 (by decide)] using hI.q22, by simpa [o 23 (by decide)] using hI.q23, by simpa [o 25 (by decide)] using hI.q25, by simpa [o 26 (by decide)] using hI.q26, by simpa [o 28 (by decide)] using hI.q28, by simpa [o 29 (by decide)] using hI.q29, by simpa [o 7 (by decide), o 8 (by decide)] using hI.cA.grown hrow hgr (by decide), by simpa [o 13 (by decide), o 14 (by decide)] using hI.cB.grown hrow hgr (by decide), by simpa [hnow, o 20 (by decide)] using Comp.fin (laid := listed.getD 20 false) (x := x 33) (v0 := .slice A3 k p3) hown, by simpa [o 24 (by decide), o 27 (by decide), o 30 (by decide), hns] using hI.st.grown hgr (blk_row hI.st hrow (by decide)), below_grown hI.bel hgr hI.bel.size (fun x e => (hlow x e).1), hI.cf.grown hgr (blk_row hI.cf hrow (by decide)), hI.xg⟩
        · simp only [List.getElem?_toArray, List.getElem?_cons_zero, List.getElem?_cons_succ, Option.some.injEq] at ho
          subst ho
          have o := fun j (hj : j ≠ 22) => hoth j hj
          have e0 := hI.q0 (hdep ⟨0, .data⟩ (by simp) rfl)
          unfold wpOp
          unfold FrmR
          go_simp
          refine .inl ⟨fun s => if s = 35 then .pointer (some ⟨g, 0, none⟩) else x s, by simp [e0], ?_⟩
          exact ⟨by simpa [o 0 (by decide)] using hI.q0, by simpa [o 1 (by decide)] using hI.q1, by simpa [o 2 (by decide)] using hI.q2, by simpa [o 3 (by decide)] using hI.q3, by simpa [o 4 (by decide)] using hI.q4, by simpa [o 5 (by decide)] using hI.q5, by simpa [o 6 (by decide)] using hI.q6, by simpa [o 9 (by decide)] using hI.q9, by simpa [o 10 (by decide)] using hI.q10, by simpa [o 11 (by decide)] using hI.q11, by simpa [o 12 (by decide)] using hI.q12, by simpa [o 15 (by decide)] using hI.q15, by simpa [o 16 (by decide)] using hI.q16, by simpa [o 17 (by decide)] using hI.q17, by simpa [o 18 (by decide)] using hI.q18, by simpa [o 19 (by decide)] using hI.q19, fun _ => rfl, by simpa [o 23 (by decide)] using hI.q23, by simpa [o 25 (by decide)] using hI.q25, by simpa [o 26 (by decide)] using hI.q26, by simpa [o 28 (by decide)] using hI.q28, by simpa [o 29 (by decide)] using hI.q29, by simpa [o 7 (by decide), o 8 (by decide)] using hI.cA, by simpa [o 13 (by decide), o 14 (by decide)] using hI.cB, by simpa [o 20 (by decide), o 21 (by decide)] using hI.cC, by simpa [o 24 (by decide), o 27 (by decide), o 30 (by decide)] using hI.st, hI.bel, hI.cf, hI.xg⟩
        · simp only [List.getElem?_toArray, List.getElem?_cons_zero, List.getElem?_cons_succ, Option.some.injEq] at ho
          subst ho
          have o := fun j (hj : j ≠ 23) => hoth j hj
          have e22 := hI.q22 (hdep ⟨22, .data⟩ (by simp) rfl)
          unfold wpOp
          unfold FrmR
          go_simp
          refine .inl ⟨fun s => if s = 36 then .pointer (some ⟨g, 0, none⟩) else x s, by simp [e22], ?_⟩
          exact ⟨by simpa [o 0 (by decide)] using hI.q0, by simpa [o 1 (by decide)] using hI.q1, by simpa [o 2 (by decide)] using hI.q2, by simpa [o 3 (by decide)] using hI.q3, by simpa [o 4 (by decide)] using hI.q4, by simpa [o 5 (by decide)] using hI.q5, by simpa [o 6 (by decide)] using hI.q6, by simpa [o 9 (by decide)] using hI.q9, by simpa [o 10 (by decide)] using hI.q10, by simpa [o 11 (by decide)] using hI.q11, by simpa [o 12 (by decide)] using hI.q12, by simpa [o 15 (by decide)] using hI.q15, by simpa [o 16 (by decide)] using hI.q16, by simpa [o 17 (by decide)] using hI.q17, by simpa [o 18 (by decide)] using hI.q18, by simpa [o 19 (by decide)] using hI.q19, by simpa [o 22 (by decide)] using hI.q22, fun _ => rfl, by simpa [o 25 (by decide)] using hI.q25, by simpa [o 26 (by decide)] using hI.q26, by simpa [o 28 (by decide)] using hI.q28, by simpa [o 29 (by decide)] using hI.q29, by simpa [o 7 (by decide), o 8 (by decide)] using hI.cA, by simpa [o 13 (by decide), o 14 (by decide)] using hI.cB, by simpa [o 20 (by decide), o 21 (by decide)] using hI.cC, by simpa [o 24 (by decide), o 27 (by decide), o 30 (by decide)] using hI.st, hI.bel, hI.cf, hI.xg⟩
        · simp only [List.getElem?_toArray, List.getElem?_cons_zero, List.getElem?_cons_succ, Option.some.injEq] at ho
          subst ho
          have o := fun j (hj : j ≠ 24) => hoth j hj
          have ha := hdep ⟨8, .data⟩ (by simp) rfl
          have ed := hI.q23 (hdep ⟨23, .data⟩ (by simp) rfl)
          simp only at ha
          obtain ⟨g1, c1, hy, _⟩ := Comp.out (by simpa [ha] using hI.cA)
          have hcell := hI.st.cell 0
          simp only [hun, Bool.false_eq_true, if_false] at hcell
          have hfz := hI.st.frozen 0
          unfold wpOp
          unfold FrmR
          go_simp
          refine .inl ⟨x, by simp [ed, hy], ?_⟩
          exact ⟨by simpa [o 0 (by decide)] using hI.q0, by simpa [o 1 (by decide)] using hI.q1, by simpa [o 2 (by decide)] using hI.q2, by simpa [o 3 (by decide)] using hI.q3, by simpa [o 4 (by decide)] using hI.q4, by simpa [o 5 (by decide)] using hI.q5, by simpa [o 6 (by decide)] using hI.q6, by simpa [o 9 (by decide)] using hI.q9, by simpa [o 10 (by decide)] using hI.q10, by simpa [o 11 (by decide)] using hI.q11, by simpa [o 12 (by decide)] using hI.q12, by simpa [o 15 (by decide)] using hI.q15, by simpa [o 16 (by decide)] using hI.q16, by simpa [o 17 (by decide)] using hI.q17, by simpa [o 18 (by decide)] using hI.q18, by simpa [o 19 (by decide)] using hI.q19, by simpa [o 22 (by decide)] using hI.q22, by simpa [o 23 (by decide)] using hI.q23, by simpa [o 25 (by decide)] using hI.q25, by simpa [o 26 (by decide)] using hI.q26, by simpa [o 28 (by decide)] using hI.q28, by simpa [o 29 (by decide)] using hI.q29, by simpa [o 7 (by decide), o 8 (by decide)] using hI.cA.set_ hI.st (by decide) 0 _, by simpa [o 13 (by decide), o 14 (by decide)] using hI.cB.set_ hI.st (by decide) 0 _, by simpa [o 20 (by decide), o 21 (by decide)] using hI.cC.set_ hI.st (by decide) 0 _, (hI.st.set_ 0 _).of_eq (by simp [hnow, o 27 (by decide), o 30 (by decide), hy]), hI.bel.setCell hI.xg _, hI.cf.far (blk_ne hI.cf hI.st (by decide)) _, hI.xg⟩
        · simp only [List.getElem?_toArray, List.getElem?_cons_zero, List.getElem?_cons_succ, Option.some.injEq] at ho
          subst ho
          have o := fun j (hj : j ≠ 25) => hoth j hj
          have e1 := hI.q1 (hdep ⟨1, .data⟩ (by simp) rfl)
          unfold wpOp
          unfold FrmR
          go_simp
          refine .inl ⟨fun s => if s = 37 then .pointer (some ⟨g, 0, none⟩) else x s, by simp [e1], ?_⟩
          exact ⟨by simpa [o 0 (by decide)] using hI.q0, by simpa [o 1 (by decide)] using hI.q1, by simpa [o 2 (by decide)] using hI.q2, by simpa [o 3 (by decide)] using hI.q3, by simpa [o 4 (by decide)] using hI.q4, by simpa [o 5 (by decide)] using hI.q5, by simpa [o 6 (by decide)] using hI.q6, by simpa [o 9 (by decide)] using hI.q9, by simpa [o 10 (by decide)] using hI.q10, by simpa [o 11 (by decide)] using hI.q11, by simpa [o 12 (by decide)] using hI.q12, by simpa [o 15 (by decide)] using hI.q15, by simpa [o 16 (by decide)] using hI.q16, by simpa [o 17 (by decide)] using hI.q17, by simpa [o 18 (by decide)] using hI.q18, by simpa [o 19 (by decide)] using hI.q19, by simpa [o 22 (by decide)] using hI.q22, by simpa [o 23 (by decide)] using hI.q23, fun _ => rfl, by simpa [o 26 (by decide)] using hI.q26, by simpa [o 28 (by decide)] using hI.q28, by simpa [o 29 (by decide)] using hI.q29, by simpa [o 7 (by decide), o 8 (by decide)] using hI.cA, by simpa [o 13 (by decide), o 14 (by decide)] using hI.cB, by simpa [o 20 (by decide), o 21 (by decide)] using hI.cC, by simpa [o 24 (by decide), o 27 (by decide), o 30 (by decide)] using hI.st, hI.bel, hI.cf, hI.xg⟩
        · simp only [List.getElem?_toArray, List.getElem?_cons_zero, List.getElem?_cons_succ, Option.some.injEq] at ho
          subst ho
          have o := fun j (hj : j ≠ 26) => hoth j hj
          have e25 := hI.q25 (hdep ⟨25, .data⟩ (by simp) rfl)
          unfold wpOp
          unfold FrmR
          go_simp
          refine .inl ⟨fun s => if s = 38 then .pointer (some ⟨g, 1, none⟩) else x s, by simp [e25], ?_⟩
          exact ⟨by simpa [o 0 (by decide)] using hI.q0, by simpa [o 1 (by decide)] using hI.q1, by simpa [o 2 (by decide)] using hI.q2, by simpa [o 3 (by decide)] using hI.q3, by simpa [o 4 (by decide)] using hI.q4, by simpa [o 5 (by decide)] using hI.q5, by simpa [o 6 (by decide)] using hI.q6, by simpa [o 9 (by decide)] using hI.q9, by simpa [o 10 (by decide)] using hI.q10, by simpa [o 11 (by decide)] using hI.q11, by simpa [o 12 (by decide)] using hI.q12, by simpa [o 15 (by decide)] using hI.q15, by simpa [o 16 (by decide)] using hI.q16, by simpa [o 17 (by decide)] using hI.q17, by simpa [o 18 (by decide)] using hI.q18, by simpa [o 19 (by decide)] using hI.q19, by simpa [o 22 (by decide)] using hI.q22, by simpa [o 23 (by decide)] using hI.q23, by simpa [o 25 (by decide)] using hI.q25, fun _ => rfl, by simpa [o 28 (by decide)] using hI.q28, by simpa [o 29 (by decide)] using hI.q29, by simpa [o 7 (by decide), o 8 (by decide)] using hI.cA, by simpa [o 13 (by decide), o 14 (by decide)] using hI.cB, by simpa [o 20 (by decide), o 21 (by decide)] using hI.cC, by simpa [o 24 (by decide), o 27 (by decide), o 30 (by decide)] using hI.st, hI.bel, hI.cf, hI.xg⟩
        · simp only [List.getElem?_toArray, List.getElem?_cons_zero, List.getElem?_cons_succ, Option.some.injEq] at ho
          subst ho
          have o := fun j (hj : j ≠ 27) => hoth j hj
          have ha := hdep ⟨14, .data⟩ (by simp) rfl
          have ed := hI.q26 (hdep ⟨26, .data⟩ (by simp) rfl)
          simp only at ha
          obtain ⟨g1, c1, hy, _⟩ := Comp.out (by simpa [ha] using hI.cB)
          have hcell := hI.st.cell 1
          simp only [hun, Bool.false_eq_true, if_false] at hcell
          have hfz := hI.st.frozen 1
          unfold wpOp
          unfold FrmR
          go_simp
          refine .inl ⟨x, by simp [ed, hy], ?_⟩
          exact ⟨by simpa [o 0 (by decide)] using hI.q0, by simpa [o 1 (by decide)] using hI.q1, by simpa [o 2 (by decide)] using hI.q2, by simpa [o 3 (by decide)] using hI.q3, by simpa [o 4 (by decide)] using hI.q4, by simpa [o 5 (by decide)] using hI.q5, by simpa [o 6 (by decide)] using hI.q6, by simpa [o 9 (by decide)] using hI.q9, by simpa [o 10 (by decide)] using hI.q10, by simpa [o 11 (by decide)] using hI.q11, by simpa [o 12 (by decide)] using hI.q12, by simpa [o 15 (by decide)] using hI.q15, by simpa [o 16 (by decide)] using hI.q16, by simpa [o 17 (by decide)] using hI.q17, by simpa [o 18 (by decide)] using hI.q18, by simpa [o 19 (by decide)] using hI.q19, by simpa [o 22 (by decide)] using hI.q22, by simpa [o 23 (by decide)] using hI.q23, by simpa [o 25 (by decide)] using hI.q25, by simpa [o 26 (by decide)] using hI.q26, by simpa [o 28 (by decide)] using hI.q28, by simpa [o 29 (by decide)] using hI.q29, by simpa [o 7 (by decide), o 8 (by decide)] using hI.cA.set_ hI.st (by decide) 1 _, by simpa [o 13 (by decide), o 14 (by decide)] using hI.cB.set_ hI.st (by decide) 1 _, by simpa [o 20 (by decide), o 21 (by decide)] using hI.cC.set_ hI.st (by decide) 1 _, (hI.st.set_ 1 _).of_eq (by simp [hnow, o 24 (by decide), o 30 (by decide), hy]), hI.bel.setCell hI.xg _, hI.cf.far (blk_ne hI.cf hI.st (by decide)) _, hI.xg⟩
        · simp only [List.getElem?_toArray, List.getElem?_cons_zero, List.getElem?_cons_succ, Option.some.injEq] at ho
          subst ho
          have o := fun j (hj : j ≠ 28) => hoth j hj
          have e2 := hI.q2 (hdep ⟨2, .data⟩ (by simp) rfl)
          unfold wpOp
          unfold FrmR
          go_simp
          refine .inl ⟨fun s => if s = 39 then .pointer (some ⟨g, 0, none⟩) else x s, by simp [e2], ?_⟩
          exact ⟨by simpa [o 0 (by decide)] using hI.q0, by simpa [o 1 (by decide)] using hI.q1, by simpa [o 2 (by decide)] using hI.q2, by simpa [o 3 (by decide)] using hI.q3, by simpa [o 4 (by decide)] using hI.q4, by simpa [o 5 (by decide)] using hI.q5, by simpa [o 6 (by decide)] using hI.q6, by simpa [o 9 (by decide)] using hI.q9, by simpa [o 10 (by decide)] using hI.q10, by simpa [o 11 (by decide)] using hI.q11, by simpa [o 12 (by decide)] using hI.q12, by simpa [o 15 (by decide)] using hI.q15, by simpa [o 16 (by decide)] using hI.q16, by simpa [o 17 (by decide)] using hI.q17, by simpa [o 18 (by decide)] using hI.q18, by simpa [o 19 (by decide)] using hI.q19, by simpa [o 22 (by decide)] using hI.q22, by simpa [o 23 (by decide)] using hI.q23, by simpa [o 25 (by decide)] using hI.q25, by simpa [o 26 (by decide)] using hI.q26, fun _ => rfl, by simpa [o 29 (by decide)] using hI.q29, by simpa [o 7 (by decide), o 8 (by decide)] using hI.cA, by simpa [o 13 (by decide), o 14 (by decide)] using hI.cB, by simpa [o 20 (by decide), o 21 (by decide)] using hI.cC, by simpa [o 24 (by decide), o 27 (by decide), o 30 (by decide)] using hI.st, hI.bel, hI.cf, hI.xg⟩
        · simp only [List.getElem?_toArray, List.getElem?_cons_zero, List.getElem?_cons_succ, Option.some.injEq] at ho
          subst ho
          have o := fun j (hj : j ≠ 29) => hoth j hj
          have e28 := hI.q28 (hdep ⟨28, .data⟩ (by simp) rfl)
          unfold wpOp
          unfold FrmR
          go_simp
          refine .inl ⟨fun s => if s = 40 then .pointer (some ⟨g, 2, none⟩) else x s, by simp [e28], ?_⟩
          exact ⟨by simpa [o 0 (by decide)] using hI.q0, by simpa [o 1 (by decide)] using hI.q1, by simpa [o 2 (by decide)] using hI.q2, by simpa [o 3 (by decide)] using hI.q3, by simpa [o 4 (by decide)] using hI.q4, by simpa [o 5 (by decide)] using hI.q5, by simpa [o 6 (by decide)] using hI.q6, by simpa [o 9 (by decide)] using hI.q9, by simpa [o 10 (by decide)] using hI.q10, by simpa [o 11 (by decide)] using hI.q11, by simpa [o 12 (by decide)] using hI.q12, by simpa [o 15 (by decide)] using hI.q15, by simpa [o 16 (by decide)] using hI.q16, by simpa [o 17 (by decide)] using hI.q17, by simpa [o 18 (by decide)] using hI.q18, by simpa [o 19 (by decide)] using hI.q19, by simpa [o 22 (by decide)] using hI.q22, by simpa [o 23 (by decide)] using hI.q23, by simpa [o 25 (by decide)] using hI.q25, by simpa [o 26 (by decide)] using hI.q26, by simpa [o 28 (by decide)] using hI.q28, fun _ => rfl, by simpa [o 7 (by decide), o 8 (by decide)] using hI.cA, by simpa [o 13 (by decide), o 14 (by decide)] using hI.cB, by simpa [o 20 (by decide), o 21 (by decide)] using hI.cC, by simpa [o 24 (by decide), o 27 (by decide), o 30 (by decide)] using hI.st, hI.bel, hI.cf, hI.xg⟩
        · simp only [List.getElem?_toArray, List.getElem?_cons_zero, List.getElem?_cons_succ, Option.some.injEq] at ho
          subst ho
          have o := fun j (hj : j ≠ 30) => hoth j hj
          have ha := hdep ⟨21, .data⟩ (by simp) rfl
          have ed := hI.q29 (hdep ⟨29, .data⟩ (by simp) rfl)
          simp only at ha
          obtain ⟨g1, c1, hy, _⟩ := Comp.out (by simpa [ha] using hI.cC)
          have hcell := hI.st.cell 2
          simp only [hun, Bool.false_eq_true, if_false] at hcell
          have hfz := hI.st.frozen 2
          unfold wpOp
          unfold FrmR
          go_simp
          refine .inl ⟨x, by simp [ed, hy], ?_⟩
          exact ⟨by simpa [o 0 (by decide)] using hI.q0, by simpa [o 1 (by decide)] using hI.q1, by simpa [o 2 (by decide)] using hI.q2, by simpa [o 3 (by decide)] using hI.q3, by simpa [o 4 (by decide)] using hI.q4, by simpa [o 5 (by decide)] using hI.q5, by simpa [o 6 (by decide)] using hI.q6, by simpa [o 9 (by decide)] using hI.q9, by simpa [o 10 (by decide)] using hI.q10, by simpa [o 11 (by decide)] using hI.q11, by simpa [o 12 (by decide)] using hI.q12, by simpa [o 15 (by decide)] using hI.q15, by simpa [o 16 (by decide)] using hI.q16, by simpa [o 17 (by decide)] using hI.q17, by simpa [o 18 (by decide)] using hI.q18, by simpa [o 19 (by decide)] using hI.q19, by simpa [o 22 (by decide)] using hI.q22, by simpa [o 23 (by decide)] using hI.q23, by simpa [o 25 (by decide)] using hI.q25, by simpa [o 26 (by decide)] using hI.q26, by simpa [o 28 (by decide)] using hI.q28, by simpa [o 29 (by decide)] using hI.q29, by simpa [o 7 (by decide), o 8 (by decide)] using hI.cA.set_ hI.st (by decide) 2 _, by simpa [o 13 (by decide), o 14 (by decide)] using hI.cB.set_ hI.st (by decide) 2 _, by simpa [o 20 (by decide), o 21 (by decide)] using hI.cC.set_ hI.st (by decide) 2 _, (hI.st.set_ 2 _).of_eq (by simp [hnow, o 24 (by decide), o 27 (by decide), hy]), hI.bel.setCell hI.xg _, hI.cf.far (blk_ne hI.cf hI.st (by decide)) _, hI.xg⟩
      · intro listed a wa hall hI
        obtain ⟨x, rfl, hI⟩ := hI
        have l7 := hall 7 (by simp)
        have l8 := hall 8 (by simp)
        have l13 := hall 13 (by simp)
        have l14 := hall 14 (by simp)
        have l20 := hall 20 (by simp)
        have l21 := hall 21 (by simp)
        have l24 := hall 24 (by simp)
        have l27 := hall 27 (by simp)
        have l30 := hall 30 (by simp)
        obtain ⟨g1, c1, hy1, r1⟩ := Comp.out (by simpa [l8] using hI.cA)
        obtain ⟨g2, c2, hy2, r2⟩ := Comp.out (by simpa [l14] using hI.cB)
        obtain ⟨g3, c3, hy3, r3⟩ := Comp.out (by simpa [l21] using hI.cC)
        have hst := hI.st
        simp only [l24, l27, l30, if_true, hy1, hy2, hy3] at hst
        have hF : FirSt w g (k + 1) (.slice (some ⟨g1, 0, none⟩) (k + 1) c1) (.slice (some ⟨g2, 0, none⟩) (k + 1) c2) (.slice (some ⟨g3, 0, none⟩) (k + 1) c3) wa :=
          ⟨hI.bel, hst, by simpa [List.replicate_succ'] using r1, by simpa [List.replicate_succ'] using r2, by simpa [List.replicate_succ', encW] using r3, hI.xg⟩
        have hcf := hI.cf
        clear hI hall l7 l8 l13 l14 l20 l21 l24 l27 l30 hy1 hy2 hy3 hst hs hcc hcC
        unfold FrmR
        go_wp2
        go_roundw
        case rel => exact ⟨k + 1, _, _, _, by omega, by go_num, hF, hcf⟩
        case measure => simp [intOf] <;> omega
    · have e : k = c.tasks.toNat := by omega
      subst e
      go_wp2
      go_ret
      exact ⟨g, rfl, _, _, _, hs⟩
end Go.Proofs.YtpbkelpokpglaaaGreat
