/- From the readings of the arguments to our words: configurations by value. What is needed of a configuration's types. Walks: slices.Clone at the slices of a configuration. slices.Clone at the slices of a configuration, in the evaluator's words. Walks: the checks of a configuration (config and its reference), function by function. Walks: the checks of a configuration's programs and submissions (config). Walks: the check of a configuration (its reference), and whether it is small. Walks: the bound (bound.parts, bound.Bound and the reference's Bound). Walks: bound.Bound and the reference's Bound. Walk: script.Rounds of no entries. Contracts of the checks and of the bound, in the evaluator's words. -/
import Derived.Test.YtnfblhckpmofcaaGreatQoah
import Derived.Test.YtnfblhckpmofcaaGreatRows
import Derived.Test.YtnfblhckpmofcaaGreatQoaa
import Derived.Laws.AppendOwn
import Derived.Lib.SliceRun
import Derived.WalkKit
import Derived.OwnWalk
import Derived.WalkMore
import Derived.Handy
import Derived.Carry
set_option linter.all false
namespace Go.Proofs.YtnfblhckpmofcaaGreat
section
open Go.ChangeShapes Go.WideShapes Go.RowKit Go.Deep
set_option maxRecDepth 100000
section
variable {B : Nat} {w : World} {L : List SProp}
/-- What the cells below the call's own memory say may be held. -/
theorem sat_lk {Φ : World → Prop} (hΦ : ∀ u : World, (∀ b o v, b < B → w.cell? ⟨b, o, none⟩ = some v → u.cell? ⟨b, o, none⟩ = some v) → Φ u) (s : Sat B w L) : Sat B w (lookS Φ :: L) := by
  obtain ⟨h, H, hs⟩ := s
  refine ⟨join (fun b o => if b < B then (w.cell? ⟨b, o, none⟩).map .look else none) h, ?_, _, h, ?_, rfl, ?_, hs⟩
  · intro b o x hx
    unfold join at hx
    by_cases hb : b < B
    · simp only [if_pos hb] at hx
      cases hv : w.cell? ⟨b, o, none⟩ with
      | none => rw [hv] at hx; exact H b o x hx
      | some v =>
        rw [hv] at hx
        obtain rfl := Option.some.inj hx
        exact ⟨.inr trivial, hv⟩
    · simp only [if_neg hb] at hx
      exact H b o x hx
  · intro b o
    by_cases hb : b < B
    · simp only [if_pos hb]
      cases hv : w.cell? ⟨b, o, none⟩ with
      | none => exact .inl rfl
      | some v =>
        cases hh : h b o with
        | none => exact .inr (.inl rfl)
        | some y =>
          obtain ⟨h1, h2⟩ := H b o y hh
          cases y with
          | cell v' => exact absurd (h1.resolve_right id) (by omega)
          | obj v' => exact absurd (h1.resolve_right id) (by omega)
          | look v' =>
            have h3 : w.cell? ⟨b, o, none⟩ = some v' := h2
            rw [hv] at h3
            obtain rfl := Option.some.inj h3
            exact .inr (.inr ⟨v, rfl, rfl⟩)
    · simp only [if_neg hb]; exact .inl rfl
  · refine ⟨fun b o => if b < B then (w.cell? ⟨b, o, none⟩).map .look else none, fun b o x hx => ⟨?_, hx⟩, fun u hu => hΦ u fun b o v hb hv => ?_⟩
    · by_cases hb : b < B
      · simp only [if_pos hb] at hx
        cases hv : w.cell? ⟨b, o, none⟩ with
        | none => rw [hv] at hx; cases hx
        | some v => rw [hv] at hx; exact ⟨v, (Option.some.inj hx).symm⟩
      · simp only [if_neg hb] at hx; cases hx
    · exact hu b o (.look v) (by simp only [if_pos hb, hv]; rfl)
theorem sl_up {α : Type} {enc : α → List Value} {sz : Nat} {A : Option Addr} {xs : List α} {u : World} (hz : 0 < sz) (henc : ∀ x, (enc x).length = sz) (hS : Sl enc sz w B A xs) (hu : ∀ b o v, b < B → w.cell? ⟨b, o, none⟩ = some v → u.cell? ⟨b, o, none⟩ = some v) : Sl enc sz u u.heap.size A xs := by
  refine ⟨hS.1, fun hne => ?_⟩
  obtain ⟨b, o, hA, hb, hcell⟩ := hS.2 hne
  have key : ∀ (i : Nat) x, xs[i]? = some x → ∀ (j : Nat) v, (enc x)[j]? = some v → u.cell? ⟨b, o + i * sz + j, none⟩ = some v := fun i x hx j v hv => hu _ _ _ hb (hcell i x hx j v hv)
  refine ⟨b, o, hA, ?_, key⟩
  cases xs with
  | nil => exact absurd rfl hne
  | cons x xs =>
    cases hx : enc x with
    | nil => have := henc x; rw [hx] at this; simp at this; omega
    | cons y ys => exact lt_of_cell (key 0 x rfl 0 y (by rw [hx]; rfl))
end
theorem cellsIns : Tryz.prog.cellsOf 63 = 3 := by kernel_rfl
theorem cellsSub : Tryz.prog.cellsOf 65 = 3 := by kernel_rfl
theorem cellsRow : Tryz.prog.cellsOf 47 = 1 := by kernel_rfl
theorem cellsCfg : Tryz.prog.cellsOf 33 = 11 := by kernel_rfl
theorem cellsPs : Tryz.prog.cellsOf 30 = 1 := by kernel_rfl
theorem cellsSs : Tryz.prog.cellsOf 31 = 1 := by kernel_rfl
structure RowAt where
  a : Option Addr
  c : Nat
  p : List Ins
def RowAt.enc (y : RowAt) : List Value := [.slice y.a y.p.length y.c]
abbrev IntOk (z : Int) : Prop := -9223372036854775808 ≤ z ∧ z ≤ 9223372036854775807
section
variable {H : Type} {enc : TypeId × Value → H} {w : World} {base : Nat} {spare : Nat → Bool} {held : Bool}
theorem int_field {n o : Nat} {cs : List Value} {d : DataW H × List MemPlace} (h : DataW.trod enc Tryz.prog w base spare held n 3 ((cs.drop o).take (Tryz.prog.cellsOf 3)) = some d) : ∃ z : Int, IntOk z ∧ cs[o]? = some (.int .i64 z) := by
  obtain ⟨z, hz, _, hw⟩ := DataW.trod_int Tryz.underlying3 h
  rw [cellsInt] at hz
  refine ⟨z, wf_int hw, ?_⟩
  have := congrArg (fun l : List Value => l[0]?) hz
  simpa using this
theorem three {cs : List Value} {a b c : Value} (hl : cs.length = 3) (h0 : cs[0]? = some a) (h1 : cs[1]? = some b) (h2 : cs[2]? = some c) : cs = [a, b, c] := by
  match cs, hl with
  | [x, y, z], _ => simp at h0 h1 h2; subst h0 h1 h2; rfl
theorem ins_elem (n : Nat) (cs : List Value) (d : DataW H × List MemPlace) (h : DataW.trod enc Tryz.prog w base spare held n 63 cs = some d) (hl : cs.length = 3) : ∃ y : Ins, (IntOk y.op ∧ IntOk y.a ∧ IntOk y.b) ∧ cs = encF SR1.kt 3 y := by
  obtain ⟨xs, m, _, _, _, hx, hf⟩ := DataW.trod_struct Tryz.underlying63 h
  match xs, hx with
  | [x0, x1, x2], _ =>
    obtain ⟨a, ha, ea⟩ := int_field (hf 0 _ rfl)
    obtain ⟨b, hb, eb⟩ := int_field (hf 1 _ rfl)
    obtain ⟨c, hc, ec⟩ := int_field (hf 2 _ rfl)
    exact ⟨⟨a, b, c⟩, ⟨ha, hb, hc⟩, three hl ea eb ec⟩
theorem sub_elem (n : Nat) (cs : List Value) (d : DataW H × List MemPlace) (h : DataW.trod enc Tryz.prog w base spare held n 65 cs = some d) (hl : cs.length = 3) : ∃ y : Sub, (IntOk y.prog ∧ IntOk y.level ∧ IntOk y.deadline) ∧ cs = encF SR1.kt 4 y := by
  obtain ⟨xs, m, _, _, _, hx, hf⟩ := DataW.trod_struct Tryz.underlying65 h
  match xs, hx with
  | [x0, x1, x2], _ =>
    obtain ⟨a, ha, ea⟩ := int_field (hf 0 _ rfl)
    obtain ⟨b, hb, eb⟩ := int_field (hf 1 _ rfl)
    obtain ⟨c, hc, ec⟩ := int_field (hf 2 _ rfl)
    exact ⟨⟨a, b, c⟩, ⟨ha, hb, hc⟩, three hl ea eb ec⟩
theorem row_elem (n : Nat) (cs : List Value) (d : DataW H × List MemPlace) (h : DataW.trod enc Tryz.prog w base spare held n 47 cs = some d) (_ : cs.length = 1) : ∃ y : RowAt, (Sl (encF SR1.kt 3) 3 w w.heap.size y.a y.p ∧ y.p.length ≤ y.c) ∧ cs = y.enc := by
  obtain ⟨A, cap, xs, h1, h2, _, h4⟩ := sl_open Tryz.underlying47 cellsIns (by decide) ins_elem h
  exact ⟨⟨A, cap, xs⟩, ⟨h2, h4⟩, h1⟩
theorem rr_in {n : Nat} {cs : List Value} {d : DataW H × List MemPlace} (h : DataW.trod enc Tryz.prog w base spare held n 30 cs = some d) : ∃ A cap, ∃ ps : List (List Ins), cs = [.slice A ps.length cap] ∧ ∀ {L}, Sat w.heap.size w L → Sat w.heap.size w (pcS SR1.kt (.rr 3 ps) (.slice A ps.length cap) :: L) := by
  obtain ⟨A, cap, ys, h1, h2, h3, h4⟩ := sl_open Tryz.underlying30 cellsRow (by decide) row_elem h
  refine ⟨A, cap, ys.map (·.p), by simpa using h1, fun {L} s => ?_⟩
  have hlen : (ys.map (·.p)).length = ys.length := List.length_map ..
  have s1 := sat_lk (Φ := fun u => ((ys.map (·.p)).length ≤ 9223372036854775807 ∧ (ys.map (·.p)).length ≤ cap) ∧ ∀ (i : Nat) (xs : List Ins), (ys.map (·.p))[i]? = some xs → ∃ a, (ys.map fun y => (y.a, y.c))[i]? = some a ∧ (Sl (encF SR1.kt 3) (SR1.kt.sz 3) u u.heap.size a.1 xs ∧ xs.length ≤ a.2) ∧ ∃ b o, A = some ⟨b, o, none⟩ ∧ b < u.heap.size ∧ u.cell? ⟨b, o + i, none⟩ = some (.slice a.1 xs.length a.2)) (fun u hu => ?_) s
  · refine sat_head (fun k hk => ?_) s1
    refine ⟨0, A, cap, rfl, (ys.map fun (y : RowAt) => (y.a, y.c)), ?_⟩
    exact hk
  · rw [hlen]
    refine ⟨⟨h2.1, h4⟩, fun i xs hi => ?_⟩
    rw [List.getElem?_map] at hi
    cases hy : ys[i]? with
    | none => rw [hy] at hi; cases hi
    | some y =>
      rw [hy] at hi
      obtain rfl := Option.some.inj hi
      have hmem := List.mem_of_getElem? hy
      have hne : ys ≠ [] := fun e => by rw [e] at hmem; cases hmem
      obtain ⟨b, o, e, hb, hc⟩ := h2.2 hne
      have hcell := hu _ _ _ hb (hc i y hy 0 _ rfl)
      rw [Nat.mul_one, Nat.add_zero] at hcell
      exact ⟨(y.a, y.c), by rw [List.getElem?_map, hy]; rfl, ⟨sl_up (by decide) (fun _ => rfl) (h3 y hmem).1 hu, (h3 y hmem).2⟩, b, o, e, lt_of_cell hcell, hcell⟩
theorem subs_in {n : Nat} {cs : List Value} {d : DataW H × List MemPlace} (h : DataW.trod enc Tryz.prog w base spare held n 31 cs = some d) : ∃ A cap, ∃ ss : List Sub, cs = [.slice A ss.length cap] ∧ ∀ {L}, Sat w.heap.size w L → Sat w.heap.size w (pcS SR1.kt (.ro 4 ss) (.slice A ss.length cap) :: L) := by
  obtain ⟨A, cap, xs, h1, h2, _, h4⟩ := sl_open Tryz.underlying31 cellsSub (by decide) sub_elem h
  exact ⟨A, cap, xs, h1, fun s => ro_in (c := 4) (by decide) (fun _ => rfl) rfl h2 h4 s⟩
theorem one_at {cs : List Value} {o : Nat} {v : Value} (h : (cs.drop o).take 1 = [v]) : cs[o]? = some v := by
  have := congrArg (fun l : List Value => l[0]?) h
  simpa using this
theorem cfg_in {r : Reach} {b0 : Nat} {v : Value} {d : DataW H} {p : List MemPlace} (hv : Value.okWide Tryz.prog w r b0 33 v) (h : DataW.Trod enc Tryz.prog w base spare held 33 v d p) :
    ∃ c : Cfg, True ∧ ∀ {L}, Sat w.heap.size w L → Sat w.heap.size w (valS SR1 13 c v :: L) := by
  obtain ⟨cs, rfl, hsz⟩ := okWide_struct Tryz.underlying33 hv
  obtain ⟨fuel, hf⟩ := h
  obtain ⟨xs, m, _, _, _, hx, hg⟩ := DataW.trod_struct Tryz.underlying33 hf
  match xs, hx with
  | [x0, x1, x2, x3, x4, x5, x6, x7, x8, x9, x10], _ =>
    obtain ⟨a0, _, e0⟩ := int_field (hg 0 _ rfl)
    obtain ⟨a1, _, e1⟩ := int_field (hg 1 _ rfl)
    obtain ⟨a2, _, e2⟩ := int_field (hg 2 _ rfl)
    obtain ⟨a3, _, e3⟩ := int_field (hg 3 _ rfl)
    obtain ⟨a4, _, e4⟩ := int_field (hg 4 _ rfl)
    obtain ⟨a5, _, e5⟩ := int_field (hg 5 _ rfl)
    obtain ⟨a6, _, e6⟩ := int_field (hg 6 _ rfl)
    obtain ⟨a7, _, e7⟩ := int_field (hg 7 _ rfl)
    obtain ⟨a8, _, e8⟩ := int_field (hg 8 _ rfl)
    obtain ⟨pa, pc, ps, hp1, hp2⟩ := rr_in (hg 9 _ rfl)
    obtain ⟨sa, sc, ss, hs1, hs2⟩ := subs_in (hg 10 _ rfl)
    have h9 := cellsPs
    have h10 := cellsSs
    replace hp1 : ((Value.agg cs).cells.toList.drop 9).take (Tryz.prog.cellsOf 30) = [.slice pa ps.length pc] := hp1
    replace hs1 : ((Value.agg cs).cells.toList.drop 10).take (Tryz.prog.cellsOf 31) = [.slice sa ss.length sc] := hs1
    rw [h9] at hp1
    rw [h10] at hs1
    have e9 := one_at hp1
    have e10 := one_at hs1
    obtain ⟨l⟩ := cs
    have hl : l.length = 11 := hsz.trans cellsCfg
    match l, hl, e0, e1, e2, e3, e4, e5, e6, e7, e8, e9, e10 with
    | [y0, y1, y2, y3, y4, y5, y6, y7, y8, y9, y10], _, e0, e1, e2, e3, e4, e5, e6, e7, e8, e9, e10 =>
      obtain rfl : y0 = _ := Option.some.inj e0
      obtain rfl : y1 = _ := Option.some.inj e1
      obtain rfl : y2 = _ := Option.some.inj e2
      obtain rfl : y3 = _ := Option.some.inj e3
      obtain rfl : y4 = _ := Option.some.inj e4
      obtain rfl : y5 = _ := Option.some.inj e5
      obtain rfl : y6 = _ := Option.some.inj e6
      obtain rfl : y7 = _ := Option.some.inj e7
      obtain rfl : y8 = _ := Option.some.inj e8
      obtain rfl : y9 = _ := Option.some.inj e9
      obtain rfl : y10 = _ := Option.some.inj e10
      refine ⟨⟨a0, a1, a2, a3, a4, a5, a6, a7, a8, ps, ss⟩, trivial, fun {L} s => ?_⟩
      have s1 : Sat w.heap.size w (fsS (pcS SR1.kt) (SR1.kt.vw 13 (⟨a0, a1, a2, a3, a4, a5, a6, a7, a8, ps, ss⟩ : Cfg)) [.int .i64 a0, .int .i64 a1, .int .i64 a2, .int .i64 a3, .int .i64 a4, .int .i64 a5, .int .i64 a6, .int .i64 a7, .int .i64 a8, .slice pa ps.length pc, .slice sa ss.length sc] ++ L) :=
        sat_iI (S := SR1) (sat_iI (S := SR1) (sat_iI (S := SR1) (sat_iI (S := SR1) (sat_iI (S := SR1) (sat_iI (S := SR1) (sat_iI (S := SR1) (sat_iI (S := SR1) (sat_iI (S := SR1) (hp2 (hs2 s))))))))))
      exact sat_wrapN (fun k hk => ⟨_, rfl, hk⟩) s1
end
end
section
open Go.RowKit
def encSl (x : Option Addr × Nat × Nat) : List Value := [.slice x.1 x.2.1 x.2.2]
theorem row_slice {w : World} {base : Nat} {e : TypeId} {size : Nat} {v : Value} {n : Nat} {xs : List Value} (h : w.ownsRow base e size v n xs) : ∃ A cap, v = .slice A n cap := by
  rcases h.2 with ⟨rfl, rfl⟩ | ⟨g, cap, cur, rfl, _⟩
  · exact ⟨_, _, rfl⟩
  · exact ⟨_, _, rfl⟩
theorem insInfo : (Tryz.prog.info? 63).map (fun i => (i.zero, i.size, i.bytes)) = some (some (.agg #[.int .i64 0, .int .i64 0, .int .i64 0]), 3, 24) := by kernel_rfl
theorem subInfo : (Tryz.prog.info? 65).map (fun i => (i.zero, i.size, i.bytes)) = some (some (.agg #[.int .i64 0, .int .i64 0, .int .i64 0]), 3, 24) := by kernel_rfl
theorem rowInfo : (Tryz.prog.info? 47).map (fun i => (i.zero, i.size, i.bytes)) = some (some (.slice none 0 0), 1, 24) := by kernel_rfl
theorem flat_getD {α : Type} {enc : α → List Value} {sz : Nat} (henc : ∀ x, (enc x).length = sz) : ∀ (xs : List α) (i : Nat) (x : α), xs[i]? = some x → ∀ (j : Nat) u, (enc x)[j]? = some u → (xs.flatMap enc)[i * sz + j]? = some u
  | [], _, _, h, _, _, _ => by simp at h
  | y :: ys, 0, x, h, j, u, hu => by
    simp at h; subst h
    have hj : j < (enc y).length := by
      rcases Nat.lt_or_ge j (enc y).length with h | h
      · exact h
      · rw [List.getElem?_eq_none h] at hu; cases hu
    rw [List.flatMap_cons, Nat.zero_mul, Nat.zero_add, List.getElem?_append_left hj]; exact hu
  | y :: ys, i + 1, x, h, j, u, hu => by
    simp at h
    rw [List.flatMap_cons, List.getElem?_append_right (by rw [henc, Nat.succ_mul]; omega), henc, show (i + 1) * sz + j - sz = i * sz + j from by rw [Nat.succ_mul]; omega]
    exact flat_getD henc ys i x h j u hu
end
section
open Go.RowKit Go.Maps
/-- A clone of xs: a row of the call's own. -/
def CloneP {α : Type} (enc : α → List Value) (sz : Nat) (el : TypeId) (w : World) (xs : List α) (e : Ending) (w' : World) : Prop :=
  (∃ A' c', e = .returned (.slice A' xs.length c') ∧ w'.ownsRow w.heap.size el sz (.slice A' xs.length c') xs.length (xs.flatMap enc)) ∧ Below w.heap.size w w'
theorem flat_lenC {α : Type} {enc : α → List Value} {sz : Nat} (henc : ∀ x, (enc x).length = sz) : ∀ xs : List α, (xs.flatMap enc).length = xs.length * sz
  | [] => by simp
  | x :: xs => by rw [List.flatMap_cons, List.length_append, flat_lenC henc xs, henc, List.length_cons, Nat.succ_mul, Nat.add_comm]
theorem sl_flat {α : Type} {enc : α → List Value} {sz : Nat} (henc : ∀ x, (enc x).length = sz) (hsz : 0 < sz) {w : World} {B : Nat} {a : Addr} {xs : List α} (hx : Sl enc sz w B (some a) xs) (ob : Obj) :
    ∀ j u, (xs.flatMap enc)[j]? = some u → (w.alloc ob).cell? (a.add j) = some u := by
  intro j u hj
  have hjl : j < (xs.flatMap enc).length := (List.getElem?_eq_some_iff.1 hj).1
  have hne : xs ≠ [] := by intro e; subst e; simp at hjl
  obtain ⟨b, o, e, hb, hc⟩ := hx.2 hne
  injection e with e
  subst e
  have hA : (⟨b, o, none⟩ : Addr).add j = ⟨b, o + j, none⟩ := by unfold Addr.add; split <;> simp_all
  rw [hA]
  refine Lib.cell?_alloc_some _ ?_
  rw [flat_lenC henc] at hjl
  have hi : j / sz < xs.length := (Nat.div_lt_iff_lt_mul hsz).2 hjl
  have hm : j % sz < (enc xs[j / sz]).length := by rw [henc]; exact Nat.mod_lt _ hsz
  have hg := flat_getD (enc := enc) (sz := sz) henc xs (j / sz) xs[j / sz] (List.getElem?_eq_getElem hi) (j % sz) _ (List.getElem?_eq_getElem hm)
  have hjj : j / sz * sz + j % sz = j := by rw [Nat.mul_comm]; exact Nat.div_add_mod _ _
  rw [hjj, hj] at hg
  injection hg with hg
  have hc' := hc (j / sz) _ (List.getElem?_eq_getElem hi) (j % sz) _ (List.getElem?_eq_getElem hm)
  rw [hg]
  rw [Nat.add_assoc, hjj] at hc'
  exact hc'
set_option maxHeartbeats 2000000 in
theorem cloneIns_any (A : Option Addr) (cap : Nat) (xs : List Ins) (w : World) (hx : Sl Ins.enc 3 w w.heap.size A xs) (hn : xs.length ≤ 1000000) :
    Calls Tryz.prog 67 #[.slice A xs.length cap] w (CloneP Ins.enc 3 63 w xs) := by
  cases A with
  | none =>
    have hnil : xs = [] := by
      rcases xs with _ | ⟨x, xs⟩
      · rfl
      · obtain ⟨b, o, e, _⟩ := hx.2 (by simp)
        cases e
    subst hnil
    have q : ∀ (w : World) (a : Option Addr) (n c n' c' : Nat), (binOp .eql 47 (.slice a n c) (.slice none n' c')).run Tryz.prog w = .ok (.bool a.isNone) w := fun w a n c n' c' => Lib.run_eql_slice_nil w _ _ a n c n' c' Tryz.underlying47
    go_enter Tryz.func67, Tryz.ntmps67
    go_wp2
    go_ret
    exact ⟨⟨none, 0, rfl, World.ownsRow_nil _ _ _ _⟩, Below.refl _ _⟩
  | some a =>
    obtain ⟨i0, hi, hz0, hz1, hz2⟩ := info_parts insInfo
    have q : ∀ (w : World) (a : Option Addr) (n c n' c' : Nat), (binOp .eql 47 (.slice a n c) (.slice none n' c')).run Tryz.prog w = .ok (.bool a.isNone) w := fun w a n c n' c' => Lib.run_eql_slice_nil w _ _ a n c n' c' Tryz.underlying47
    have hcell := Lib.hid (sl_flat (sz := 3) (w := w) (B := w.heap.size) (fun _ => rfl) (by decide) hx (Obj.cells #[] 63))
    clear hx
    go_enter Tryz.func67, Tryz.ntmps67
    go_wp2_with (at_builtin; refine wpList_append_own_at _ rfl _ _ 47 rfl w.heap.size 63 i0 (.agg #[.int .i64 0, .int .i64 0, .int .i64 0]) 3 24 Tryz.underlying47 hi hz0 hz1 hz2 rfl (by decide) _ _ _ rfl (World.ownsRow_made w #[] 0 (Nat.le_refl _) (Nat.zero_le _) rfl) a xs.length cap (xs.flatMap Ins.enc) rfl ?qc0 ?qc1 ?qc2 ?qc3 ?qc4 ?qc5 ?_)
    case qc0 => exact flat_lenC (enc := Ins.enc) (sz := 3) (fun _ => rfl) xs
    case qc1 => exact hcell.out
    case qc2 => intro u hu; rw [List.mem_flatMap] at hu; obtain ⟨x, _, hu⟩ := hu; simp [Ins.enc] at hu; rcases hu with rfl | rfl | rfl <;> rfl
    case qc3 => unfold maxLen; omega
    case qc4 => omega
    case qc5 => simp
    intro v' w1 hown hgrow _ _
    obtain ⟨A', c', hv⟩ := row_slice hown
    subst hv
    clear hcell
    go_wp2
    go_ret
    exact ⟨⟨A', c', by simp, by simpa using hown⟩, ((Below.refl _ w).alloc (Nat.le_refl _) _).grown hgrow (by simp) (by intro k hk; simp [Value.ownBlock] at hk; omega)⟩
set_option maxHeartbeats 2000000 in
theorem cloneRows_any (A : Option Addr) (cap : Nat) (xs : List (Option Addr × Nat × Nat)) (w : World) (hx : Sl encSl 1 w w.heap.size A xs) (hn : xs.length ≤ 1000000) :
    Calls Tryz.prog 66 #[.slice A xs.length cap] w (CloneP encSl 1 47 w xs) := by
  cases A with
  | none =>
    have hnil : xs = [] := by
      rcases xs with _ | ⟨x, xs⟩
      · rfl
      · obtain ⟨b, o, e, _⟩ := hx.2 (by simp)
        cases e
    subst hnil
    have q : ∀ (w : World) (a : Option Addr) (n c n' c' : Nat), (binOp .eql 30 (.slice a n c) (.slice none n' c')).run Tryz.prog w = .ok (.bool a.isNone) w := fun w a n c n' c' => Lib.run_eql_slice_nil w _ _ a n c n' c' Tryz.underlying30
    go_enter Tryz.func66, Tryz.ntmps66
    go_wp2
    go_ret
    exact ⟨⟨none, 0, rfl, World.ownsRow_nil _ _ _ _⟩, Below.refl _ _⟩
  | some a =>
    obtain ⟨i0, hi, hz0, hz1, hz2⟩ := info_parts rowInfo
    have q : ∀ (w : World) (a : Option Addr) (n c n' c' : Nat), (binOp .eql 30 (.slice a n c) (.slice none n' c')).run Tryz.prog w = .ok (.bool a.isNone) w := fun w a n c n' c' => Lib.run_eql_slice_nil w _ _ a n c n' c' Tryz.underlying30
    have hcell := Lib.hid (sl_flat (sz := 1) (w := w) (B := w.heap.size) (fun _ => rfl) (by decide) hx (Obj.cells #[] 47))
    clear hx
    go_enter Tryz.func66, Tryz.ntmps66
    go_wp2_with (at_builtin; refine wpList_append_own_at _ rfl _ _ 30 rfl w.heap.size 47 i0 (.slice none 0 0) 1 24 Tryz.underlying30 hi hz0 hz1 hz2 rfl (by decide) _ _ _ rfl (World.ownsRow_made w #[] 0 (Nat.le_refl _) (Nat.zero_le _) rfl) a xs.length cap (xs.flatMap encSl) rfl ?qc0 ?qc1 ?qc2 ?qc3 ?qc4 ?qc5 ?_)
    case qc0 => exact flat_lenC (enc := encSl) (sz := 1) (fun _ => rfl) xs
    case qc1 => exact hcell.out
    case qc2 => intro u hu; rw [List.mem_flatMap] at hu; obtain ⟨x, _, hu⟩ := hu; simp [encSl] at hu; rcases hu with rfl; rfl
    case qc3 => unfold maxLen; omega
    case qc4 => omega
    case qc5 => simp
    intro v' w1 hown hgrow _ _
    obtain ⟨A', c', hv⟩ := row_slice hown
    subst hv
    clear hcell
    go_wp2
    go_ret
    exact ⟨⟨A', c', by simp, by simpa using hown⟩, ((Below.refl _ w).alloc (Nat.le_refl _) _).grown hgrow (by simp) (by intro k hk; simp [Value.ownBlock] at hk; omega)⟩
set_option maxHeartbeats 2000000 in
theorem cloneSubs_any (A : Option Addr) (cap : Nat) (xs : List Sub) (w : World) (hx : Sl Sub.enc 3 w w.heap.size A xs) (hn : xs.length ≤ 1000000) :
    Calls Tryz.prog 68 #[.slice A xs.length cap] w (CloneP Sub.enc 3 65 w xs) := by
  cases A with
  | none =>
    have hnil : xs = [] := by
      rcases xs with _ | ⟨x, xs⟩
      · rfl
      · obtain ⟨b, o, e, _⟩ := hx.2 (by simp)
        cases e
    subst hnil
    have q : ∀ (w : World) (a : Option Addr) (n c n' c' : Nat), (binOp .eql 31 (.slice a n c) (.slice none n' c')).run Tryz.prog w = .ok (.bool a.isNone) w := fun w a n c n' c' => Lib.run_eql_slice_nil w _ _ a n c n' c' Tryz.underlying31
    go_enter Tryz.func68, Tryz.ntmps68
    go_wp2
    go_ret
    exact ⟨⟨none, 0, rfl, World.ownsRow_nil _ _ _ _⟩, Below.refl _ _⟩
  | some a =>
    obtain ⟨i0, hi, hz0, hz1, hz2⟩ := info_parts subInfo
    have q : ∀ (w : World) (a : Option Addr) (n c n' c' : Nat), (binOp .eql 31 (.slice a n c) (.slice none n' c')).run Tryz.prog w = .ok (.bool a.isNone) w := fun w a n c n' c' => Lib.run_eql_slice_nil w _ _ a n c n' c' Tryz.underlying31
    have hcell := Lib.hid (sl_flat (sz := 3) (w := w) (B := w.heap.size) (fun _ => rfl) (by decide) hx (Obj.cells #[] 65))
    clear hx
    go_enter Tryz.func68, Tryz.ntmps68
    go_wp2_with (at_builtin; refine wpList_append_own_at _ rfl _ _ 31 rfl w.heap.size 65 i0 (.agg #[.int .i64 0, .int .i64 0, .int .i64 0]) 3 24 Tryz.underlying31 hi hz0 hz1 hz2 rfl (by decide) _ _ _ rfl (World.ownsRow_made w #[] 0 (Nat.le_refl _) (Nat.zero_le _) rfl) a xs.length cap (xs.flatMap Sub.enc) rfl ?qc0 ?qc1 ?qc2 ?qc3 ?qc4 ?qc5 ?_)
    case qc0 => exact flat_lenC (enc := Sub.enc) (sz := 3) (fun _ => rfl) xs
    case qc1 => exact hcell.out
    case qc2 => intro u hu; rw [List.mem_flatMap] at hu; obtain ⟨x, _, hu⟩ := hu; simp [Sub.enc] at hu; rcases hu with rfl | rfl | rfl <;> rfl
    case qc3 => unfold maxLen; omega
    case qc4 => omega
    case qc5 => simp
    intro v' w1 hown hgrow _ _
    obtain ⟨A', c', hv⟩ := row_slice hown
    subst hv
    clear hcell
    go_wp2
    go_ret
    exact ⟨⟨A', c', by simp, by simpa using hown⟩, ((Below.refl _ w).alloc (Nat.le_refl _) _).grown hgrow (by simp) (by intro k hk; simp [Value.ownBlock] at hk; omega)⟩
end
section
open Go Go.RowKit
noncomputable def cloneIns (l : List Ins) : Option ((List Ins × Unit) × Unit) := if l.length ≤ 1000000 then some ((l, ()), ()) else none
noncomputable abbrev cloneIns_k : Con SR1 := ⟨67, [.sh (.ro 3)], [.sh (.row 3)], fun x => cloneIns x.1⟩
noncomputable def cloneSubs (l : List Sub) : Option ((List Sub × Unit) × Unit) := if l.length ≤ 1000000 then some ((l, ()), ()) else none
noncomputable abbrev cloneSubs_k : Con SR1 := ⟨68, [.sh (.ro 4)], [.sh (.row 4)], fun x => cloneSubs x.1⟩
/-- A function that makes a row of its own out of a list. -/
theorem co_clone {f : FuncId} (hf : Nat.blt f mBase = true) {c sz : Nat} {el : TypeId} (hp : ∀ x, pureB (SR1.kt.vw c x) = true) (hsz : SR1.kt.sz c = sz) {spec : List (SR1.T c) → Option ((List (SR1.T c) × Unit) × Unit)} (hspec : ∀ l o, spec l = some o → o = ((l, ()), ()) ∧ l.length ≤ 1000000)
    (h : ∀ (A : Option Addr) (cap : Nat) (xs : List (SR1.T c)) (w : World), Sl (encF SR1.kt c) sz w w.heap.size A xs → xs.length ≤ 1000000 → Calls Tryz.prog f #[.slice A xs.length cap] w (CloneP (encF SR1.kt c) sz el w xs)) :
    CO Tryz.prog ⟨f, [.sh (.ro c)], [.sh (.row c)], fun x => spec x.1⟩ := fun x out hx B W vs F w hw => by
  obtain ⟨hb, hB, hs⟩ := hw
  obtain ⟨ho, hl⟩ := hspec x.1 out hx
  subst ho
  show CallsM Tryz.prog f _ w _
  rw [callsM_fn hf]
  rcases vs with _ | ⟨v, _ | ⟨v2, vs⟩⟩
  · exact sat_false hs
  · replace hs : Sat B w [pcS SR1.kt (.ro c x.1) v, F] := hs
    obtain ⟨A, cap, rfl, hsl⟩ := sat_ro hs
    have s1 := hs.drop
    rw [hsz] at hsl
    refine (h A cap x.1 w hsl hl).mono fun e w' ⟨⟨A', c', he, hown⟩, hb'⟩ => ⟨[.slice A' (List.length x.1) c'], he, hb.trans (hb'.mono hB), Nat.le_trans hB hb'.size, ?_⟩
    have s2 := sat_new_row s1 hb' hB hown
    rw [← hsz] at s2
    exact sat_row_plain hp s2
  · replace hs : Sat B w (pcS SR1.kt (.ro c x.1) v :: ([fun _ => False] ++ [F])) := hs
    exact sat_false hs.drop
theorem cloneIns_ok : CO Tryz.prog cloneIns_k := co_clone rfl (c := 3) (sz := 3) (fun _ => rfl) rfl (spec := cloneIns) (fun l o h => by
  unfold cloneIns at h
  split at h
  · rename_i hl; cases h; exact ⟨rfl, hl⟩
  · cases h) fun A cap xs w hx hn => cloneIns_any A cap xs w hx hn
theorem cloneSubs_ok : CO Tryz.prog cloneSubs_k := co_clone rfl (c := 4) (sz := 3) (fun _ => rfl) rfl (spec := cloneSubs) (fun l o h => by
  unfold cloneSubs at h
  split at h
  · rename_i hl; cases h; exact ⟨rfl, hl⟩
  · cases h) fun A cap xs w hx hn => cloneSubs_any A cap xs w hx hn
/-! ### The outer slice -/
noncomputable def cloneRows (l : List (List Ins)) : Option ((List (List Ins) × Unit) × Unit) := if l.length ≤ 1000000 then some ((l, ()), ()) else none
noncomputable abbrev cloneRows_k : Con SR1 := ⟨66, [.sh (.rr 3)], [.sh (.row 18)], fun x => cloneRows x.1⟩
def hdrs (xss : List (List Ins)) (ps : List (Option Addr × Nat)) : List (Option Addr × Nat × Nat) := List.zipWith (fun xs a => (a.1, xs.length, a.2)) xss ps
theorem look_rows {Φ : World → Prop} {L : List SProp} : ∀ (xss : List (List Ins)) (ps : List (Option Addr × Nat)), xss.length = ps.length → (∀ u, Φ u → ∀ (i : Nat) xs a, xss[i]? = some xs → ps[i]? = some a → Sl (encF SR1.kt 3) 3 u u.heap.size a.1 xs ∧ xs.length ≤ a.2) →
    Ent (lookS Φ :: L) (rwsS SR1.kt (pcS SR1.kt) 18 xss ((hdrs xss ps).map encSl) ++ lookS Φ :: L)
  | [], [], _, _ => Ent.refl
  | [], _ :: _, h, _ => by cases h
  | _ :: _, [], h, _ => by cases h
  | xs :: xss, a :: ps, hl, hΦ => by
    have ih := look_rows (Φ := Φ) (L := L) xss ps (by simpa using hl) fun u hu i ys b h1 h2 => hΦ u hu (i + 1) ys b h1 h2
    refine look_dup.trans (fun h hs => ?_)
    have h1 := star_tail (A := lookS Φ) ih hs
    refine star_head (A' := pcS SR1.kt (.ro 3 xs) (.slice a.1 xs.length a.2)) (fun k hk => ?_) h1
    refine pcS_iff.2 (show pcW SR1.kt (obS SR1.kt) (rwS SR1.kt) (.ro 3 xs) (.slice a.1 xs.length a.2) k from ⟨a.1, a.2, rfl, ?_⟩)
    exact look_mono (fun u hu => hΦ u hu 0 xs a rfl rfl) _ hk
theorem rows_fin {B : Nat} {w : World} {A R F : SProp} {N : List SProp} (s : Sat B w (N ++ A :: [R, F])) : Sat B w ((R :: N) ++ [A, F]) := s.perm (perm_cnt fun f g h1 h2 h3 => by simp only [List.cons_append, h1, h2, h3]; omega)
theorem cloneRows_aux (xss : List (List Ins)) (hl : xss.length ≤ 1000000) (B : Nat) (W : World) (v : Value) (F : SProp) (w : World) (hw : Cls B W [pcS SR1.kt (.rr 3 xss) v, F] w) :
    Calls Tryz.prog cloneRows_k.f #[v] w fun e w' => ∃ u, e = .returned u ∧ Cls B W [pcS SR1.kt (.row 18 xss) u, F] w' := by
  obtain ⟨hb, hB, hs⟩ := hw
  have s1 : Sat B w ((fun h => ∃ A cap, v = .slice A xss.length cap ∧ rrS (encF SR1.kt 3) (SR1.kt.sz 3) A cap xss h) :: [F]) := sat_head (pc_cases (S := SR1) (f := .rr 3 xss) (fun _ h => h) fun _ _ h => h) hs
  obtain ⟨h, H, k1, k2, a, e, ⟨A, cap, rfl, ps0, h1⟩, h2⟩ := s1
  have s2 : Sat B w (lookS _ :: [F]) := ⟨h, H, k1, k2, a, e, h1, h2⟩
  have h3 := look_sat s2 List.mem_cons_self
  have hps : xss.length ≤ ps0.length := by
    rcases Nat.eq_zero_or_pos xss.length with h0 | h0
    · omega
    · obtain ⟨a, ha, _⟩ := h3.2 (xss.length - 1) _ (List.getElem?_eq_getElem (Nat.sub_lt h0 Nat.one_pos))
      have := (List.getElem?_eq_some_iff.1 ha).1
      omega
  obtain ⟨ps, hpe⟩ : ∃ ps, ps = ps0.take xss.length := ⟨_, rfl⟩
  have hpl : xss.length = ps.length := by rw [hpe, List.length_take]; omega
  have hpg : ∀ (i : Nat) b, ps[i]? = some b → ps0[i]? = some b := fun i b hb => by
    rw [hpe, List.getElem?_take] at hb
    split at hb
    · exact hb
    · cases hb
  have hrl : (hdrs xss ps).length = xss.length := by unfold hdrs; rw [List.length_zipWith]; omega
  have hsl : Sl encSl 1 w w.heap.size A (hdrs xss ps) := by
    refine ⟨by omega, fun hne => ?_⟩
    have hpos : 0 < xss.length := by rw [← hrl]; exact List.length_pos_iff.2 hne
    obtain ⟨a0, _, _, b, o, hA, hlt, _⟩ := h3.2 0 _ (List.getElem?_eq_getElem hpos)
    refine ⟨b, o, hA, hlt, fun i x hi j u hu => ?_⟩
    unfold hdrs at hi
    rw [List.getElem?_zipWith] at hi
    cases hx : xss[i]? with
    | none => rw [hx] at hi; simp at hi
    | some xs =>
      cases hy : ps[i]? with
      | none => rw [hx, hy] at hi; simp at hi
      | some a =>
        rw [hx, hy] at hi
        obtain rfl := Option.some.inj hi
        obtain ⟨a', ha', _, b', o', hA', _, hc⟩ := h3.2 i xs hx
        rw [hpg i a hy] at ha'
        obtain rfl := Option.some.inj ha'
        rw [hA] at hA'
        cases hA'
        cases j with
        | zero =>
          obtain rfl := Option.some.inj hu
          rw [Nat.mul_one, Nat.add_zero]; exact hc
        | succ j => simp [encSl] at hu
  have hcl := cloneRows_any A cap (hdrs xss ps) w hsl (by omega)
  rw [hrl] at hcl
  refine hcl.mono fun e w' ⟨⟨A', c', he, hown⟩, hb'⟩ => ⟨.slice A' xss.length c', by rw [he, hrl], hb.trans (hb'.mono hB), Nat.le_trans hB hb'.size, ?_⟩
  rw [hrl] at hown
  have s3 := sat_new_row s2 hb' hB hown
  have s4 : Sat B w' (lookS _ :: [rowS A' xss.length c' 1 ((hdrs xss ps).flatMap encSl), F]) := s3.perm (List.Perm.swap ..)
  have s5 := s4.imp (look_rows xss ps hpl fun u hu i xs a hx hy => by
    obtain ⟨a', ha', hq, _⟩ := hu.2 i xs hx
    rw [hpg i a hy] at ha'
    obtain rfl := Option.some.inj ha'
    exact hq)
  have s6 := rows_fin s5
  have s7 := sat_wrapN (A := pcS SR1.kt (.row 18 xss) (.slice A' xss.length c')) (fun k hk => pcS_iff.2 (show pcW SR1.kt (obS SR1.kt) (rwS SR1.kt) (.row 18 xss) _ k from ⟨A', c', rfl, rwS_iff.2 ⟨(hdrs xss ps).map encSl, by
    rw [show ((hdrs xss ps).map encSl).flatten = (hdrs xss ps).flatMap encSl from by rw [List.flatMap_def]]
    exact hk⟩⟩)) s6
  exact (s7.perm (List.Perm.swap ..)).drop
theorem cloneRows_ok : CO Tryz.prog cloneRows_k := fun x out hx B W vs F w hw => by
  obtain ⟨hb, hB, hs⟩ := hw
  replace hx : cloneRows x.1 = some out := hx
  unfold cloneRows at hx
  split at hx
  · rename_i hl
    cases hx
    show CallsM Tryz.prog cloneRows_k.f _ w _
    rw [callsM_fn rfl]
    rcases vs with _ | ⟨v, _ | ⟨v2, vs⟩⟩
    · exact sat_false hs
    · exact (cloneRows_aux x.1 hl B W v F w ⟨hb, hB, hs⟩).mono fun e w' ⟨u, he, h⟩ => ⟨[u], he, h⟩
    · replace hs : Sat B w (pcS SR1.kt (.rr 3 x.1) v :: ([fun _ => False] ++ [F])) := hs
      exact sat_false hs.drop
  · cases hx
end
section
open Go.RowKit
set_option maxHeartbeats 400000 in
theorem cfgIn_any (a b c : Int) (w : World) :
    Calls Tryz.prog 54 #[.int .i64 a, .int .i64 b, .int .i64 c] w fun e w' => e = .returned (.bool (inB a b c)) ∧ w = w' := by
  unfold inB
  by_cases h : b ≤ a
  all_goals
    go_enter Tryz.func54, Tryz.ntmps54
    go_wp2
    go_ret
    all_goals (simp [*] <;> omega)
set_option maxHeartbeats 400000 in
theorem refIn_any (a b c : Int) (w : World) :
    Calls Tryz.prog 34 #[.int .i64 a, .int .i64 b, .int .i64 c] w fun e w' => e = .returned (.bool (inB a b c)) ∧ w = w' := by
  unfold inB
  by_cases h : b ≤ a
  all_goals
    go_enter Tryz.func34, Tryz.ntmps34
    go_wp2
    go_ret
    all_goals (simp [*] <;> omega)
set_option maxHeartbeats 1000000 in
theorem cfgNumbers_any (c : Cfg) (l : CfgAt) (w : World) :
    Calls Tryz.prog 29 #[cfgV c l] w fun e w' => e = .returned (.bool (numsOk c)) ∧ Below w.heap.size w w' := by
  unfold cfgV numsOk
  by_cases hl : c.levels < 8
  all_goals
    go_enter Tryz.func29, Tryz.ntmps29
    go_wp2_with (first | (go_at_call 54; refine (cfgIn_any _ _ _ _).mono ?_; rintro e w' ⟨rfl, rfl⟩))
    all_goals go_ret
    all_goals simp [*]
    all_goals exact (Below.refl _ _).alloc (Nat.le_refl _) _
set_option maxHeartbeats 1000000 in
theorem cfgValid_any (c : Cfg) (l : CfgAt) (x : Ins) (w : World) (h1 : 1 ≤ c.levels) (h2 : c.levels ≤ 64) (hp : c.progs.length ≤ 9223372036854775807) :
    Calls Tryz.prog 55 #[cfgV c l, .agg #[.int .i64 x.op, .int .i64 x.a, .int .i64 x.b]] w fun e w' => e = .returned (.bool (insOk c.levels c.progs.length x)) ∧ Below w.heap.size w w' := by
  unfold cfgV
  go_enter Tryz.func55, Tryz.ntmps55
  go_wp2_with (first | (go_at_call 54; refine (cfgIn_any _ _ _ _).mono ?_; rintro e w' ⟨rfl, rfl⟩))
  all_goals go_ret
  all_goals refine ⟨ret_bool (by unfold insOk; simp_all), ?_⟩
  all_goals exact ((Below.refl _ _).alloc (Nat.le_refl _) _).alloc (by simp) _
set_option maxHeartbeats 1000000 in
theorem refInstr_any (c : Cfg) (l : CfgAt) (x : Ins) (w : World) (h1 : 1 ≤ c.levels) (h2 : c.levels ≤ 64) (hp : c.progs.length ≤ 9223372036854775807) :
    Calls Tryz.prog 35 #[cfgV c l, .agg #[.int .i64 x.op, .int .i64 x.a, .int .i64 x.b]] w fun e w' => e = .returned (.bool (insOk c.levels c.progs.length x)) ∧ Below w.heap.size w w' := by
  unfold cfgV
  go_enter Tryz.func35, Tryz.ntmps35
  go_wp2_with (first | (go_at_call 34; refine (refIn_any _ _ _ _).mono ?_; rintro e w' ⟨rfl, rfl⟩))
  all_goals go_ret
  all_goals refine ⟨ret_bool (by unfold insOk; simp_all), ?_⟩
  all_goals exact ((Below.refl _ _).alloc (Nat.le_refl _) _).alloc (by simp) _
set_option maxHeartbeats 1000000 in
theorem refNumbers_any (c : Cfg) (l : CfgAt) (w : World) :
    Calls Tryz.prog 33 #[cfgV c l] w fun e w' => e = .returned (.bool (numsOk c)) ∧ Below w.heap.size w w' := by
  unfold cfgV numsOk
  by_cases hl : c.levels < 8
  all_goals
    go_enter Tryz.func33, Tryz.ntmps33
    go_wp2_with (first | (go_at_call 34; refine (refIn_any _ _ _ _).mono ?_; rintro e w' ⟨rfl, rfl⟩))
    all_goals go_ret
    all_goals simp [*]
    all_goals exact (Below.refl _ _).alloc (Nat.le_refl _) _
end
section
open Go.RowKit
theorem progsErr_drop_long {lv np : Int} {ps : List (List Ins)} {k : Nat} (hk : k < ps.length) (h : progsErr lv np (ps.drop k) = progsErr lv np ps) (hl : 32 < ps[k].length) : progsErr lv np ps = 2 := by
  rw [← h, List.drop_eq_getElem_cons hk]; simp [progsErr, hl]
theorem progsErr_drop_bad {lv np : Int} {ps : List (List Ins)} {k j : Nat} (hk : k < ps.length) (h : progsErr lv np (ps.drop k) = progsErr lv np ps) (hl : ps[k].length ≤ 32) (hj : j < ps[k].length) (hb : insOk lv np ps[k][j] = false) : progsErr lv np ps = 1 := by
  rw [← h, List.drop_eq_getElem_cons hk]
  have : ps[k].all (insOk lv np) = false := by
    rw [List.all_eq_false]; exact ⟨_, List.getElem_mem hj, by simp [hb]⟩
  simp [progsErr, Nat.not_lt.2 hl, this]
theorem progsErr_drop_next {lv np : Int} {ps : List (List Ins)} {k : Nat} (hk : k < ps.length) (h : progsErr lv np (ps.drop k) = progsErr lv np ps) (hl : ps[k].length ≤ 32) (ha : (ps[k].take ps[k].length).all (insOk lv np) = true) : progsErr lv np (ps.drop (k + 1)) = progsErr lv np ps := by
  rw [← h, List.drop_eq_getElem_cons hk]
  rw [List.take_length] at ha
  simp [progsErr, Nat.not_lt.2 hl, ha]
theorem all_take_succ {α : Type} {f : α → Bool} {l : List α} {j : Nat} (hj : j < l.length) (h : (l.take j).all f = true) (hf : f l[j] = true) : (l.take (j + 1)).all f = true := by
  rw [List.take_succ_eq_append_getElem hj, List.all_append, h]; simp [hf]
def PInv (lv np : Int) (ps : List (List Ins)) (k : Nat) : Prop := progsErr lv np (ps.drop k) = progsErr lv np ps
def QInv (lv np : Int) (p : List Ins) (k : Nat) : Prop := (p.take k).all (insOk lv np) = true
/-- The box of a configuration. -/
@[reducible] def cfgBox (c : Cfg) (l : CfgAt) : Obj := .cells #[.int .i64 c.workers, .int .i64 c.levels, .int .i64 c.classes, .int .i64 c.tasks, .int .i64 c.deque, .int .i64 c.heap, .int .i64 c.batch, .int .i64 c.age, .int .i64 c.patience, .slice l.pa c.progs.length l.pc, .slice l.sa c.subs.length l.sc] 33
set_option maxHeartbeats 2000000 in
theorem cfgPrograms_any (c : Cfg) (l : CfgAt) (w : World) (h1 : 1 ≤ c.levels) (h2 : c.levels ≤ 64) (hc : CfgIn w w.heap.size c l) :
    Calls Tryz.prog 30 #[cfgV c l] w fun e w' => e = .returned (.int .i64 (progsAll c)) ∧ Below w.heap.size w w' := by
  have hlen := hc.1.1
  by_cases hp : inB (c.progs.length : Int) 1 32 = true
  · have hfin : progsAll c = progsErr c.levels c.progs.length c.progs := by simp [progsAll, hp]
    have Hfin := Lib.hid hfin
    clear hfin
    unfold cfgV
    go_enter Tryz.func30, Tryz.ntmps30
    go_wp2_with (first | (go_at_call 54; refine (cfgIn_any _ _ _ _).mono ?_; rintro e w' ⟨rfl, rfl⟩))
    go_loopw [15] (fun i wr => ∃ k : Nat, k ≤ c.progs.length ∧ i = .int .i64 k ∧ PInv c.levels c.progs.length c.progs k ∧ Below (w.heap.size + 1) (w.alloc (cfgBox c l)) wr) (fun i _ => c.progs.length - (intOf i).toNat)
    case atStart => exact ⟨0, Nat.zero_le _, rfl, rfl, Below.refl _ _⟩
    case round =>
      obtain ⟨k, hk, rfl, hi, hb⟩ := hrel
      have hB : w.heap.size < wr.heap.size := by have := hb.size; simp at this; omega
      have hbw : Below w.heap.size w wr := ((Below.refl _ _).alloc (Nat.le_refl _) _).trans (hb.mono (by omega))
      by_cases hlt : k < c.progs.length
      · obtain ⟨b, o, hpa, hbb, Ai, ci, hcell, hsl⟩ := hc.1.at_ hlt
        have hln := hsl.len
        obtain ⟨hcs, hfz⟩ := bcell hb
        by_cases hlong : 32 < c.progs[k].length
        · have hres := Lib.hid (progsErr_drop_long hlt hi hlong)
          obtain ⟨pa, pc, sa, sc⟩ := l
          obtain rfl : pa = some ⟨b, o, none⟩ := hpa
          go_wp2
          go_ret
          exact ⟨ret_int (by rw [Hfin.out, hres.out]), hbw⟩
        · obtain ⟨pa, pc, sa, sc⟩ := l
          obtain rfl : pa = some ⟨b, o, none⟩ := hpa
          go_wp2
          obtain ⟨wo, rfl⟩ : ∃ wo : World, wo = wr := ⟨_, rfl⟩
          clear hcs hfz
          go_loopw [24] (fun i ws => ∃ j : Nat, j ≤ c.progs[k].length ∧ i = .int .i64 j ∧ QInv c.levels c.progs.length c.progs[k] j ∧ Below (w.heap.size + 1) (w.alloc (cfgBox c ⟨some ⟨b, o, none⟩, pc, sa, sc⟩)) ws) (fun i _ => c.progs[k].length - (intOf i).toNat)
          case atStart => exact ⟨0, Nat.zero_le _, rfl, by simp [QInv], hb⟩
          case round =>
            obtain ⟨j, hj, rfl, hq, hb2⟩ := hrel
            have hB2 : w.heap.size < wr.heap.size := by have := hb2.size; simp at this; omega
            have hbw2 : Below w.heap.size w wr := ((Below.refl _ _).alloc (Nat.le_refl _) _).trans (hb2.mono (by omega))
            by_cases hjt : j < c.progs[k].length
            · obtain ⟨b2, o2, hpa2, hbb2, hcc⟩ := hsl.at_ hjt
              obtain rfl : Ai = some ⟨b2, o2, none⟩ := hpa2
              obtain ⟨hcs, hfz⟩ := bcell hb2
              have c0 : w.cell? ⟨b2, o2 + j * 3, none⟩ = some (.int .i64 c.progs[k][j].op) := hcc j hjt 0 _ rfl
              have c1 : w.cell? ⟨b2, o2 + j * 3 + 1, none⟩ = some (.int .i64 c.progs[k][j].a) := hcc j hjt 1 _ rfl
              have c2 : w.cell? ⟨b2, o2 + j * 3 + 2, none⟩ = some (.int .i64 c.progs[k][j].b) := hcc j hjt 2 _ rfl
              by_cases hok : insOk c.levels c.progs.length c.progs[k][j] = true
              · go_wp2_with (first | (go_at_call 55; refine (cfgValid_any c ⟨some ⟨b, o, none⟩, pc, sa, sc⟩ c.progs[k][j] _ h1 h2 hlen).mono ?_; rintro e w' ⟨rfl, hbv⟩))
                go_roundw
                case rel => exact ⟨j + 1, by omega, by go_num, all_take_succ hjt hq hok, (hb2.alloc (by omega) _).trans (hbv.mono (by simp; omega))⟩
                case measure => simp [intOf]; omega
              · have hok' : insOk c.levels c.progs.length c.progs[k][j] = false := by simpa using hok
                clear hok
                have hres := Lib.hid (progsErr_drop_bad hlt hi (by omega) hjt hok')
                go_wp2_with (first | (go_at_call 55; refine (cfgValid_any c ⟨some ⟨b, o, none⟩, pc, sa, sc⟩ c.progs[k][j] _ h1 h2 hlen).mono ?_; rintro e w' ⟨rfl, hbv⟩))
                go_ret
                exact ⟨ret_int (by rw [Hfin.out, hres.out]), ((Below.refl _ _).alloc (Nat.le_refl _) _).trans (((hb2.alloc (by omega) _).trans (hbv.mono (by simp; omega))).mono (by omega))⟩
            · obtain ⟨hcs, hfz⟩ := bcell hb2
              go_wp2
              go_roundw
              case rel => exact ⟨k + 1, by omega, by go_num, progsErr_drop_next hlt hi (by omega) (by
                have e : j = c.progs[k].length := by omega
                subst e; exact hq), hb2⟩
              case measure => simp [intOf]; omega
      · go_wp2
        go_ret
        exact ⟨ret_int (by
          have hi' : progsErr c.levels c.progs.length (c.progs.drop k) = progsErr c.levels c.progs.length c.progs := hi
          rw [Hfin.out, ← hi', List.drop_eq_nil_of_le (by omega)]; rfl), hbw⟩
  · have hfin : progsAll c = 2 := by simp [progsAll, hp]
    have Hfin := Lib.hid hfin
    clear hfin
    unfold cfgV
    go_enter Tryz.func30, Tryz.ntmps30
    go_wp2_with (first | (go_at_call 54; refine (cfgIn_any _ _ _ _).mono ?_; rintro e w' ⟨rfl, rfl⟩))
    go_ret
    exact ⟨ret_int Hfin.out.symm, (Below.refl _ _).alloc (Nat.le_refl _) _⟩
theorem subsErr_drop_bad {lv np : Int} {ss : List Sub} {k : Nat} (hk : k < ss.length) (h : subsErr lv np (ss.drop k) = subsErr lv np ss) {e : Int} (he : subErr lv np ss[k] = e) (hne : e ≠ 0) : subsErr lv np ss = e := by
  subst he
  rw [← h, List.drop_eq_getElem_cons hk]; simp [subsErr, hne]
theorem subsErr_drop_next {lv np : Int} {ss : List Sub} {k : Nat} (hk : k < ss.length) (h : subsErr lv np (ss.drop k) = subsErr lv np ss) (he : subErr lv np ss[k] = 0) : subsErr lv np (ss.drop (k + 1)) = subsErr lv np ss := by
  rw [← h, List.drop_eq_getElem_cons hk]; simp [subsErr, he]
def SInv (lv np : Int) (ss : List Sub) (k : Nat) : Prop := subsErr lv np (ss.drop k) = subsErr lv np ss
set_option maxHeartbeats 2000000 in
theorem cfgSubs_any (c : Cfg) (l : CfgAt) (w : World) (h1 : 1 ≤ c.levels) (h2 : c.levels ≤ 64) (hc : CfgIn w w.heap.size c l) :
    Calls Tryz.prog 31 #[cfgV c l] w fun e w' => e = .returned (.int .i64 (subsAll c)) ∧ Below w.heap.size w w' := by
  have hlen := hc.1.1
  have hlen2 := hc.2.1
  by_cases hp : 64 < c.subs.length
  · have hfin : subsAll c = 2 := by simp [subsAll, hp]
    have Hfin := Lib.hid hfin
    clear hfin
    unfold cfgV
    go_enter Tryz.func31, Tryz.ntmps31
    go_wp2
    go_ret
    exact ⟨ret_int Hfin.out.symm, (Below.refl _ _).alloc (Nat.le_refl _) _⟩
  · have hfin : subsAll c = subsErr c.levels c.progs.length c.subs := by simp [subsAll, hp]
    have Hfin := Lib.hid hfin
    clear hfin
    unfold cfgV
    go_enter Tryz.func31, Tryz.ntmps31
    go_wp2
    go_loopw [12] (fun i wr => ∃ k : Nat, k ≤ c.subs.length ∧ i = .int .i64 k ∧ SInv c.levels c.progs.length c.subs k ∧ Below (w.heap.size + 1) (w.alloc (cfgBox c l)) wr) (fun i _ => c.subs.length - (intOf i).toNat)
    case atStart => exact ⟨0, Nat.zero_le _, rfl, rfl, Below.refl _ _⟩
    case round =>
      obtain ⟨k, hk, rfl, hi, hb⟩ := hrel
      have hB : w.heap.size < wr.heap.size := by have := hb.size; simp at this; omega
      have hbw : Below w.heap.size w wr := ((Below.refl _ _).alloc (Nat.le_refl _) _).trans (hb.mono (by omega))
      obtain ⟨hcs, hfz⟩ := bcell hb
      by_cases hlt : k < c.subs.length
      · obtain ⟨b, o, hpa, hbb, hcc⟩ := hc.2.at_ hlt
        obtain ⟨pa, pc, sa, sc⟩ := l
        obtain rfl : sa = some ⟨b, o, none⟩ := hpa
        have c0 : w.cell? ⟨b, o + k * 3, none⟩ = some (.int .i64 c.subs[k].prog) := hcc k hlt 0 _ rfl
        have c1 : w.cell? ⟨b, o + k * 3 + 1, none⟩ = some (.int .i64 c.subs[k].level) := hcc k hlt 1 _ rfl
        have c2 : w.cell? ⟨b, o + k * 3 + 2, none⟩ = some (.int .i64 c.subs[k].deadline) := hcc k hlt 2 _ rfl
        have hse : subErr c.levels c.progs.length c.subs[k] = if !inB c.subs[k].prog 0 (c.progs.length - 1) then 3 else if !inB c.subs[k].level 0 (c.levels - 1) || !inB c.subs[k].deadline 0 16777215 then 1 else 0 := rfl
        have Hse := Lib.hid hse
        clear hse
        have bad := fun e he hne => Lib.hid (subsErr_drop_bad (e := e) hlt hi he hne)
        by_cases g1 : inB c.subs[k].prog 0 (c.progs.length - 1) = true
        · by_cases g2 : inB c.subs[k].level 0 (c.levels - 1) = true
          · by_cases g3 : inB c.subs[k].deadline 0 16777215 = true
            · go_wp2_with (first | (go_at_call 54; refine (cfgIn_any _ _ _ _).mono ?_; rintro e w' ⟨rfl, rfl⟩))
              go_roundw
              case rel => exact ⟨k + 1, by omega, by go_num, subsErr_drop_next hlt hi (by rw [Hse.out]; simp [g1, g2, g3]), hb.alloc (by omega) _⟩
              case measure => simp [intOf]; omega
            · go_wp2_with (first | (go_at_call 54; refine (cfgIn_any _ _ _ _).mono ?_; rintro e w' ⟨rfl, rfl⟩))
              go_ret
              exact ⟨ret_int (by rw [Hfin.out, (bad 1 (by rw [Hse.out]; simp [g1, g2, g3]) (by omega)).out]), hbw.alloc (by omega) _⟩
          · go_wp2_with (first | (go_at_call 54; refine (cfgIn_any _ _ _ _).mono ?_; rintro e w' ⟨rfl, rfl⟩))
            go_ret
            exact ⟨ret_int (by rw [Hfin.out, (bad 1 (by rw [Hse.out]; simp [g1, g2]) (by omega)).out]), hbw.alloc (by omega) _⟩
        · go_wp2_with (first | (go_at_call 54; refine (cfgIn_any _ _ _ _).mono ?_; rintro e w' ⟨rfl, rfl⟩))
          go_ret
          exact ⟨ret_int (by rw [Hfin.out, (bad 3 (by rw [Hse.out]; simp [g1]) (by omega)).out]), hbw.alloc (by omega) _⟩
      · go_wp2
        go_ret
        exact ⟨ret_int (by
          have hi' : subsErr c.levels c.progs.length (c.subs.drop k) = subsErr c.levels c.progs.length c.subs := hi
          rw [Hfin.out, ← hi', List.drop_eq_nil_of_le (by omega)]; rfl), hbw⟩
set_option maxHeartbeats 2000000 in
theorem cfgCheck_any (c : Cfg) (l : CfgAt) (w : World) (hc : CfgIn w w.heap.size c l) :
    Calls Tryz.prog 19 #[cfgV c l] w fun e w' => e = .returned (.int .i64 (cfgErr c)) ∧ Below w.heap.size w w' := by
  by_cases hn : numsOk c = true
  · obtain ⟨_, _, h1, h2, _⟩ := numsOk_spec hn
    by_cases hp : progsAll c = 0
    · have hfin : cfgErr c = subsAll c := by simp [cfgErr, hn, hp]
      have Hfin := Lib.hid hfin
      clear hfin
      unfold cfgV
      go_enter Tryz.func19, Tryz.ntmps19
      go_wp2_with fail
      refine (cfgNumbers_any c l _).mono ?_; rintro e w1 ⟨rfl, hb1⟩
      obtain ⟨hc1, hf1⟩ := bcell hb1
      have hw1 := below_box1 hb1
      go_wp2_with fail
      refine (cfgPrograms_any c l _ h1 h2 (hc.up hw1)).mono ?_; rintro e w2 ⟨rfl, hb2⟩
      have hw2 := below_next hw1 hb2
      obtain ⟨hc2, hf2⟩ := bcell (below_next hb1 hb2)
      clear hc1 hf1
      go_wp2_with fail
      refine (cfgSubs_any c l _ h1 h2 (hc.up hw2)).mono ?_; rintro e w3 ⟨rfl, hb3⟩
      go_wp2_with fail
      go_ret
      exact ⟨ret_int Hfin.out.symm, below_next hw2 hb3⟩
    · have hfin : cfgErr c = progsAll c := by simp [cfgErr, hn, hp]
      have Hfin := Lib.hid hfin
      have hp' : (progsAll c == 0) = false := by simpa using hp
      clear hfin hp
      unfold cfgV
      go_enter Tryz.func19, Tryz.ntmps19
      go_wp2_with fail
      refine (cfgNumbers_any c l _).mono ?_; rintro e w1 ⟨rfl, hb1⟩
      obtain ⟨hc1, hf1⟩ := bcell hb1
      have hw1 := below_box1 hb1
      go_wp2_with fail
      refine (cfgPrograms_any c l _ h1 h2 (hc.up hw1)).mono ?_; rintro e w2 ⟨rfl, hb2⟩
      have hw2 := below_next hw1 hb2
      obtain ⟨hc2, hf2⟩ := bcell (below_next hb1 hb2)
      clear hc1 hf1
      go_wp2_with fail
      go_ret
      exact ⟨ret_int Hfin.out.symm, hw2⟩
  · have hfin : cfgErr c = 1 := by simp [cfgErr, hn]
    have Hfin := Lib.hid hfin
    clear hfin
    unfold cfgV
    go_enter Tryz.func19, Tryz.ntmps19
    go_wp2_with fail
    refine (cfgNumbers_any c l _).mono ?_; rintro e w1 ⟨rfl, hb1⟩
    have hw1 := below_box1 hb1
    go_wp2_with fail
    go_ret
    exact ⟨ret_int Hfin.out.symm, hw1⟩
end
section
open Go.RowKit
set_option maxHeartbeats 2000000 in
theorem refCheck_any (c : Cfg) (l : CfgAt) (w : World) (hc : CfgIn w w.heap.size c l) :
    Calls Tryz.prog 21 #[cfgV c l] w fun e w' => e = .returned (.int .i64 (cfgErr c)) ∧ Below w.heap.size w w' := by
  have hlen := hc.1.1
  have hlen2 := hc.2.1
  by_cases hn : numsOk c = true
  · obtain ⟨_, _, h1, h2, _⟩ := numsOk_spec hn
    by_cases hp : inB (c.progs.length : Int) 1 32 = true
    · have hpa0 : progsAll c = progsErr c.levels c.progs.length c.progs := by simp [progsAll, hp]
      have hfin : cfgErr c = if progsErr c.levels c.progs.length c.progs ≠ 0 then progsErr c.levels c.progs.length c.progs else subsAll c := by simp [cfgErr, hn, hpa0]
      have Hfin := Lib.hid hfin
      clear hfin hpa0
      unfold cfgV
      go_enter Tryz.func21, Tryz.ntmps21
      go_wp2_with fail
      refine (refNumbers_any c l _).mono ?_; rintro e w1 ⟨rfl, hb1⟩
      obtain ⟨hc1, hf1⟩ := bcell hb1
      have hw1 := below_box1 hb1
      go_wp2_with fail
      refine (refIn_any _ _ _ _).mono ?_; rintro e w2 ⟨rfl, rfl⟩
      go_wp2_with fail
      clear hc1 hf1
      have hb1' : Below (w.heap.size + 1) (w.alloc (cfgBox c l)) w1 := by simpa using hb1
      clear hb1
      go_loopw [3] (fun i wr => ∃ k : Nat, k ≤ c.progs.length ∧ i = .int .i64 k ∧ PInv c.levels c.progs.length c.progs k ∧ Below (w.heap.size + 1) (w.alloc (cfgBox c l)) wr) (fun i _ => c.progs.length - (intOf i).toNat)
      case atStart => exact ⟨0, Nat.zero_le _, rfl, rfl, hb1'⟩
      case round =>
        clear hb1' hw1
        obtain ⟨k, hk, rfl, hi, hb⟩ := hrel
        have hB : w.heap.size < wr.heap.size := by have := hb.size; simp at this; omega
        have hbw : Below w.heap.size w wr := ((Below.refl _ _).alloc (Nat.le_refl _) _).trans (hb.mono (by omega))
        obtain ⟨hcs, hfz⟩ := bcell hb
        by_cases hlt : k < c.progs.length
        · obtain ⟨b, o, hpa, hbb, Ai, ci, hcell, hsl⟩ := hc.1.at_ hlt
          have hln := hsl.len
          obtain ⟨pa, pc, sa, sc⟩ := l
          obtain rfl : pa = some ⟨b, o, none⟩ := hpa
          by_cases hlong : 32 < c.progs[k].length
          · have hres := Lib.hid (progsErr_drop_long hlt hi hlong)
            go_wp2
            go_ret
            exact ⟨ret_int (by rw [Hfin.out, hres.out]; simp), hbw⟩
          · go_wp2
            obtain ⟨wo, rfl⟩ : ∃ wo : World, wo = wr := ⟨_, rfl⟩
            clear hcs hfz
            go_loopw [4] (fun i ws => ∃ j : Nat, j ≤ c.progs[k].length ∧ i = .int .i64 j ∧ QInv c.levels c.progs.length c.progs[k] j ∧ Below (w.heap.size + 1) (w.alloc (cfgBox c ⟨some ⟨b, o, none⟩, pc, sa, sc⟩)) ws) (fun i _ => c.progs[k].length - (intOf i).toNat)
            case atStart => exact ⟨0, Nat.zero_le _, rfl, by simp [QInv], hb⟩
            case round =>
              obtain ⟨j, hj, rfl, hq, hb2⟩ := hrel
              have hB2 : w.heap.size < wr.heap.size := by have := hb2.size; simp at this; omega
              obtain ⟨hcs, hfz⟩ := bcell hb2
              by_cases hjt : j < c.progs[k].length
              · obtain ⟨b2, o2, hpa2, hbb2, hcc⟩ := hsl.at_ hjt
                obtain rfl : Ai = some ⟨b2, o2, none⟩ := hpa2
                have c0 : w.cell? ⟨b2, o2 + j * 3, none⟩ = some (.int .i64 c.progs[k][j].op) := hcc j hjt 0 _ rfl
                have c1 : w.cell? ⟨b2, o2 + j * 3 + 1, none⟩ = some (.int .i64 c.progs[k][j].a) := hcc j hjt 1 _ rfl
                have c2 : w.cell? ⟨b2, o2 + j * 3 + 2, none⟩ = some (.int .i64 c.progs[k][j].b) := hcc j hjt 2 _ rfl
                by_cases hok : insOk c.levels c.progs.length c.progs[k][j] = true
                · have hok2 : (!insOk c.levels c.progs.length c.progs[k][j]) = false := by simp [hok]
                  go_wp2
                  clear hcs hfz
                  have hcx := Above.cells (B := w.heap.size + 1) (W := w.alloc (cfgBox c ⟨some ⟨b, o, none⟩, pc, sa, sc⟩))
                  refine wp_region_above (w.heap.size + 1) (w.alloc (cfgBox c ⟨some ⟨b, o, none⟩, pc, sa, sc⟩)) (by kernel_rfl) (by kernel_rfl) hb2 ?_
                  repeat (go_big_quiet_step ((go_at_call 35; exact calm_of (by simp) (refInstr_any c ⟨some ⟨b, o, none⟩, pc, sa, sc⟩ c.progs[k][j] _ h1 h2 hlen))))
                  refine wpQuiet_nil ?_
                  intro wq hbq
                  have hbq' : Below w.heap.size w wq := ((Below.refl _ _).alloc (Nat.le_refl _) _).trans (hbq.mono (by omega))
                  clear hcx
                  go_wp2
                  go_roundw
                  case rel => exact ⟨j + 1, by omega, by go_num, all_take_succ hjt hq hok, hbq⟩
                  case measure => simp [intOf]; omega
                · have hok' : insOk c.levels c.progs.length c.progs[k][j] = false := by simpa using hok
                  clear hok
                  have hres := Lib.hid (progsErr_drop_bad hlt hi (by omega) hjt hok')
                  go_wp2
                  clear hcs hfz
                  have hcx := Above.cells (B := w.heap.size + 1) (W := w.alloc (cfgBox c ⟨some ⟨b, o, none⟩, pc, sa, sc⟩))
                  refine wp_region_above (w.heap.size + 1) (w.alloc (cfgBox c ⟨some ⟨b, o, none⟩, pc, sa, sc⟩)) (by kernel_rfl) (by kernel_rfl) hb2 ?_
                  repeat (go_big_quiet_step ((go_at_call 35; exact calm_of (by simp) (refInstr_any c ⟨some ⟨b, o, none⟩, pc, sa, sc⟩ c.progs[k][j] _ h1 h2 hlen))))
                  refine wpQuiet_nil ?_
                  intro wq hbq
                  have hbq' : Below w.heap.size w wq := ((Below.refl _ _).alloc (Nat.le_refl _) _).trans (hbq.mono (by omega))
                  clear hcx
                  go_wp2
                  go_ret
                  exact ⟨ret_int (by rw [Hfin.out, hres.out]; simp), hbq'⟩
              · go_wp2
                go_roundw
                case rel => exact ⟨k + 1, by omega, by go_num, progsErr_drop_next hlt hi (by omega) (by
                  have e : j = c.progs[k].length := by omega
                  subst e; exact hq), hb2⟩
                case measure => simp [intOf]; omega
        · have hi' : progsErr c.levels c.progs.length (c.progs.drop k) = progsErr c.levels c.progs.length c.progs := hi
          have hpz : progsErr c.levels c.progs.length c.progs = 0 := by rw [← hi', List.drop_eq_nil_of_le (by omega)]; rfl
          have Hf2 : Hid (cfgErr c = subsAll c) := by rw [Hfin.out, hpz]; exact if_neg (by simp)
          clear hi hi' hpz
          by_cases hp : 64 < c.subs.length
          · have hfin : subsAll c = 2 := by simp [subsAll, hp]
            have Hf3 := Lib.hid hfin
            clear hfin
            go_wp2
            go_ret
            exact ⟨ret_int (by rw [Hf2.out, Hf3.out]), hbw⟩
          · have hfin : subsAll c = subsErr c.levels c.progs.length c.subs := by simp [subsAll, hp]
            have Hf3 := Lib.hid hfin
            clear hfin
            go_wp2
            obtain ⟨wo, rfl⟩ : ∃ wo : World, wo = wr := ⟨_, rfl⟩
            clear hcs hfz
            go_loopw [5] (fun i wr => ∃ k : Nat, k ≤ c.subs.length ∧ i = .int .i64 k ∧ SInv c.levels c.progs.length c.subs k ∧ Below (w.heap.size + 1) (w.alloc (cfgBox c l)) wr) (fun i _ => c.subs.length - (intOf i).toNat)
            case atStart => exact ⟨0, Nat.zero_le _, rfl, rfl, hb⟩
            case round =>
              clear hb hB hbw
              obtain ⟨m, hk, rfl, hi, hb⟩ := hrel
              have hB : w.heap.size < wr.heap.size := by have := hb.size; simp at this; omega
              have hbw : Below w.heap.size w wr := ((Below.refl _ _).alloc (Nat.le_refl _) _).trans (hb.mono (by omega))
              obtain ⟨hcs, hfz⟩ := bcell hb
              by_cases hlt : m < c.subs.length
              · obtain ⟨b, o, hpa, hbb, hcc⟩ := hc.2.at_ hlt
                obtain ⟨pa, pc, sa, sc⟩ := l
                obtain rfl : sa = some ⟨b, o, none⟩ := hpa
                have c0 : w.cell? ⟨b, o + m * 3, none⟩ = some (.int .i64 c.subs[m].prog) := hcc m hlt 0 _ rfl
                have c1 : w.cell? ⟨b, o + m * 3 + 1, none⟩ = some (.int .i64 c.subs[m].level) := hcc m hlt 1 _ rfl
                have c2 : w.cell? ⟨b, o + m * 3 + 2, none⟩ = some (.int .i64 c.subs[m].deadline) := hcc m hlt 2 _ rfl
                have hse : subErr c.levels c.progs.length c.subs[m] = if !inB c.subs[m].prog 0 (c.progs.length - 1) then 3 else if !inB c.subs[m].level 0 (c.levels - 1) || !inB c.subs[m].deadline 0 16777215 then 1 else 0 := rfl
                have Hse := Lib.hid hse
                clear hse
                have bad := fun e he hne => Lib.hid (subsErr_drop_bad (e := e) hlt hi he hne)
                by_cases g1 : inB c.subs[m].prog 0 (c.progs.length - 1) = true
                · by_cases g2 : inB c.subs[m].level 0 (c.levels - 1) = true
                  · by_cases g3 : inB c.subs[m].deadline 0 16777215 = true
                    · go_wp2_with (first | (go_at_call 34; refine (refIn_any _ _ _ _).mono ?_; rintro e w' ⟨rfl, rfl⟩))
                      go_roundw
                      case rel => exact ⟨m + 1, by omega, by go_num, subsErr_drop_next hlt hi (by rw [Hse.out]; simp [g1, g2, g3]), hb.alloc (by omega) _⟩
                      case measure => simp [intOf]; omega
                    · go_wp2_with (first | (go_at_call 34; refine (refIn_any _ _ _ _).mono ?_; rintro e w' ⟨rfl, rfl⟩))
                      go_ret
                      exact ⟨ret_int (by rw [Hf2.out, Hf3.out, (bad 1 (by rw [Hse.out]; simp [g1, g2, g3]) (by omega)).out]), hbw.alloc (by omega) _⟩
                  · go_wp2_with (first | (go_at_call 34; refine (refIn_any _ _ _ _).mono ?_; rintro e w' ⟨rfl, rfl⟩))
                    go_ret
                    exact ⟨ret_int (by rw [Hf2.out, Hf3.out, (bad 1 (by rw [Hse.out]; simp [g1, g2]) (by omega)).out]), hbw.alloc (by omega) _⟩
                · go_wp2_with (first | (go_at_call 34; refine (refIn_any _ _ _ _).mono ?_; rintro e w' ⟨rfl, rfl⟩))
                  go_ret
                  exact ⟨ret_int (by rw [Hf2.out, Hf3.out, (bad 3 (by rw [Hse.out]; simp [g1]) (by omega)).out]), hbw.alloc (by omega) _⟩
              · go_wp2
                go_ret
                exact ⟨ret_int (by
                  have hi' : subsErr c.levels c.progs.length (c.subs.drop m) = subsErr c.levels c.progs.length c.subs := hi
                  rw [Hf2.out, Hf3.out, ← hi', List.drop_eq_nil_of_le (by omega)]; rfl), hbw⟩
    · have hfin : cfgErr c = 2 := by simp [cfgErr, hn, progsAll, hp]
      have Hfin := Lib.hid hfin
      clear hfin
      unfold cfgV
      go_enter Tryz.func21, Tryz.ntmps21
      go_wp2_with fail
      refine (refNumbers_any c l _).mono ?_; rintro e w1 ⟨rfl, hb1⟩
      obtain ⟨hc1, hf1⟩ := bcell hb1
      have hw1 := below_box1 hb1
      go_wp2_with fail
      refine (refIn_any _ _ _ _).mono ?_; rintro e w2 ⟨rfl, rfl⟩
      go_wp2_with fail
      go_ret
      exact ⟨ret_int Hfin.out.symm, hw1⟩
  · have hfin : cfgErr c = 1 := by simp [cfgErr, hn]
    have Hfin := Lib.hid hfin
    clear hfin
    unfold cfgV
    go_enter Tryz.func21, Tryz.ntmps21
    go_wp2_with fail
    refine (refNumbers_any c l _).mono ?_; rintro e w1 ⟨rfl, hb1⟩
    have hw1 := below_box1 hb1
    go_wp2_with fail
    go_ret
    exact ⟨ret_int Hfin.out.symm, hw1⟩
/-- Small: the numbers, then the programs' lengths. -/
def SmallNums (c : Cfg) : Prop := c.workers ≤ 16 ∧ c.levels ≤ 8 ∧ c.tasks ≤ 16 ∧ c.deque ≤ 8 ∧ c.heap ≤ 8 ∧ c.progs.length ≤ 8 ∧ c.subs.length ≤ 12
instance (c : Cfg) : Decidable (SmallNums c) := by unfold SmallNums; exact inferInstance
def smallB (c : Cfg) : Bool := decide (SmallNums c) && c.progs.all (fun p => decide (p.length ≤ 12))
def LInv (ps : List (List Ins)) (k : Nat) : Prop := (ps.take k).all (fun p => decide (p.length ≤ 12)) = true
set_option maxHeartbeats 2000000 in
theorem small_any (c : Cfg) (l : CfgAt) (w : World) (hc : CfgIn w w.heap.size c l) :
    Calls Tryz.prog 11 #[cfgV c l] w fun e w' => e = .returned (.bool (smallB c)) ∧ Below w.heap.size w w' := by
  have hlen := hc.1.1
  by_cases hs : SmallNums c
  · have hfin : smallB c = c.progs.all (fun p => decide (p.length ≤ 12)) := by simp [smallB, hs]
    have Hfin := Lib.hid hfin
    clear hfin
    obtain ⟨g1, g2, g3, g4, g5, g6, g7⟩ := hs
    unfold cfgV
    go_enter Tryz.func11, Tryz.ntmps11
    go_wp2
    go_loopw [3] (fun i wr => ∃ k : Nat, k ≤ c.progs.length ∧ i = .int .i64 k ∧ LInv c.progs k ∧ w.alloc (cfgBox c l) = wr) (fun i _ => c.progs.length - (intOf i).toNat)
    case atStart => exact ⟨0, Nat.zero_le _, rfl, by simp [LInv], rfl⟩
    case round =>
      obtain ⟨k, hk, rfl, hi, rfl⟩ := hrel
      by_cases hlt : k < c.progs.length
      · obtain ⟨b, o, hpa, hbb, Ai, ci, hcell, hsl⟩ := hc.1.at_ hlt
        obtain ⟨pa, pc, sa, sc⟩ := l
        obtain rfl : pa = some ⟨b, o, none⟩ := hpa
        by_cases hg : 12 < c.progs[k].length
        · have hres : Hid (c.progs.all (fun p => decide (p.length ≤ 12)) = false) := by
            show _ = false
            rw [List.all_eq_false]
            exact ⟨_, List.getElem_mem hlt, by simp; omega⟩
          go_wp2
          go_ret
          exact ⟨ret_bool (by rw [Hfin.out, hres.out]), (Below.refl _ _).alloc (Nat.le_refl _) _⟩
        · go_wp2
          go_roundw
          case rel => exact ⟨k + 1, by omega, by go_num, all_take_succ hlt hi (by simp; omega), trivial⟩
          case measure => simp [intOf]; omega
      · have hres : Hid (c.progs.all (fun p => decide (p.length ≤ 12)) = true) := by
          have hi' : (c.progs.take k).all (fun p => decide (p.length ≤ 12)) = true := hi
          rw [List.take_of_length_le (by omega)] at hi'
          exact hi'
        go_wp2
        go_ret
        exact ⟨ret_bool (by rw [Hfin.out, hres.out]), (Below.refl _ _).alloc (Nat.le_refl _) _⟩
  · have hfin : smallB c = false := by simp [smallB, hs]
    have Hfin := Lib.hid hfin
    clear hfin
    have hs' : 16 < c.workers ∨ 8 < c.levels ∨ 16 < c.tasks ∨ 8 < c.deque ∨ 8 < c.heap ∨ 8 < c.progs.length ∨ 12 < c.subs.length := by
      unfold SmallNums at hs; omega
    clear hs
    unfold cfgV
    go_enter Tryz.func11, Tryz.ntmps11
    go_wp2
    all_goals first | (exfalso; omega) | (go_ret; exact ⟨ret_bool Hfin.out.symm, (Below.refl _ _).alloc (Nat.le_refl _) _⟩)
end
section
open Go.RowKit
/-- The seven numbers are in range. -/
def InRange (w l c p t s g : Int) : Prop := (0 ≤ w ∧ w ≤ 131072) ∧ (0 ≤ l ∧ l ≤ 131072) ∧ (0 ≤ c ∧ c ≤ 131072) ∧ (0 ≤ p ∧ p ≤ 131072) ∧ (0 ≤ t ∧ t ≤ 131072) ∧ (0 ≤ s ∧ s ≤ 131072) ∧ (0 ≤ g ∧ g ≤ 1048576)
instance (w l c p t s g : Int) : Decidable (InRange w l c p t s g) := by unfold InRange; infer_instance
def runV (w l c t g : Int) : Int := (g + 2 * t + 1) * (64 + 2 * c + 16 * t) + 4 * t * l * (w + 1)
def progV (l t s g : Int) : Int := 4 * t + 4 * g + 8 * t * l + 8 * s + 4
def seekV (w l c p : Int) : Int := 8 * (64 + 11 * l + 16 * w + p) + 64 + 2 * c
def boundV (w l c p t s g : Int) : Int := if InRange w l c p t s g then runV w l c t g + t + g + (progV l t s g + 2) * seekV w l c p else 0
/-- The products keep within their bounds. -/
def ProdOk (w l c p t s g : Int) : Prop :=
  (0 ≤ 4 * t * l ∧ 4 * t * l ≤ 68719476736) ∧ (0 ≤ 8 * t * l ∧ 8 * t * l ≤ 137438953472) ∧ (0 ≤ (g + 2 * t + 1) * (64 + 2 * c + 16 * t) ∧ (g + 2 * t + 1) * (64 + 2 * c + 16 * t) ≤ 9007199254740992) ∧ (0 ≤ 4 * t * l * (w + 1) ∧ 4 * t * l * (w + 1) ≤ 18014398509481984) ∧
  (0 ≤ (progV l t s g + 2) * seekV w l c p ∧ (progV l t s g + 2) * seekV w l c p ≤ 4611686018427387904)
theorem mul_le_mul_of {a b A B : Int} (ha : 0 ≤ a) (hA : a ≤ A) (hb : 0 ≤ b) (hB : b ≤ B) : 0 ≤ a * b ∧ a * b ≤ A * B :=
  ⟨Int.mul_nonneg ha hb, Int.le_trans (Int.mul_le_mul_of_nonneg_right hA hb) (Int.mul_le_mul_of_nonneg_left hB (Int.le_trans ha hA))⟩
theorem prodOk {w l c p t s g : Int} (h : InRange w l c p t s g) : ProdOk w l c p t s g := by
  obtain ⟨hw, hl, hc, hp, ht, hs, hg⟩ := h
  have h1 := mul_le_mul_of (a := 4 * t) (b := l) (A := 524288) (B := 131072) (by omega) (by omega) hl.1 hl.2
  have h2 := mul_le_mul_of (a := 8 * t) (b := l) (A := 1048576) (B := 131072) (by omega) (by omega) hl.1 hl.2
  have h3 := mul_le_mul_of (a := g + 2 * t + 1) (b := 64 + 2 * c + 16 * t) (A := 1310721) (B := 2359360) (by omega) (by omega) (by omega) (by omega)
  have h4 := mul_le_mul_of (a := 4 * t * l) (b := w + 1) (A := 68719476736) (B := 131073) h1.1 (by omega) (by omega) (by omega)
  have h5 := mul_le_mul_of (a := progV l t s g + 2) (b := seekV w l c p) (A := 137444720646) (B := 29622848) (by unfold progV; omega) (by unfold progV; omega) (by unfold seekV; omega) (by unfold seekV; omega)
  unfold ProdOk
  omega
set_option maxHeartbeats 1000000 in
theorem parts_any (w l c p t s g : Int) (wl : World) (h : InRange w l c p t s g) :
    Calls Tryz.prog 17 #[.int .i64 w, .int .i64 l, .int .i64 c, .int .i64 p, .int .i64 t, .int .i64 s, .int .i64 g] wl fun e w' => e = .returned (.tuple #[.int .i64 (runV w l c t g), .int .i64 (progV l t s g), .int .i64 (seekV w l c p)]) ∧ wl = w' := by
  have hp := prodOk h
  unfold InRange at h
  unfold ProdOk at hp
  unfold runV
  unfold progV seekV at hp ⊢
  obtain ⟨⟨_, _⟩, ⟨_, _⟩, ⟨_, _⟩, ⟨_, _⟩, ⟨_, _⟩, ⟨_, _⟩, ⟨_, _⟩⟩ := h
  obtain ⟨⟨_, _⟩, ⟨_, _⟩, ⟨_, _⟩, ⟨_, _⟩, ⟨_, _⟩⟩ := hp
  go_enter Tryz.func17, Tryz.ntmps17
  go_wp2
  go_ret3
  exact ⟨rfl, rfl⟩
end
section
open Go.RowKit
def ati (xs : List Int) (i : Nat) : Int := xs.getD i 0
def OkTo (xs : List Int) (k : Nat) : Prop := ∀ i, i < k → 0 ≤ ati xs i ∧ ati xs i ≤ 131072
theorem OkTo.next {xs : List Int} {k : Nat} (h : OkTo xs k) (h1 : 0 ≤ ati xs k) (h2 : ati xs k ≤ 131072) : OkTo xs (k + 1) := fun i hi => by
  rcases Nat.lt_or_ge i k with h3 | h3
  · exact h i h3
  · have e : i = k := by omega
    subst e; exact ⟨h1, h2⟩
theorem inRange_of {w l c p t s g : Int} (h : OkTo [w, l, c, p, t, s] 6) (hg : 0 ≤ g ∧ g ≤ 1048576) : InRange w l c p t s g :=
  ⟨h 0 (by omega), h 1 (by omega), h 2 (by omega), h 3 (by omega), h 4 (by omega), h 5 (by omega), hg⟩
theorem InRange.at_ {w l c p t s g : Int} (h : InRange w l c p t s g) (i : Nat) : 0 ≤ ati [w, l, c, p, t, s] i ∧ ati [w, l, c, p, t, s] i ≤ 131072 := by
  obtain ⟨h0, h1, h2, h3, h4, h5, _⟩ := h
  match i with
  | 0 => exact h0
  | 1 => exact h1
  | 2 => exact h2
  | 3 => exact h3
  | 4 => exact h4
  | 5 => exact h5
  | k + 6 => simp [ati, List.getD]
theorem boundV_zero {w l c p t s g : Int} {k : Nat} (h : ¬ (0 ≤ ati [w, l, c, p, t, s] k ∧ ati [w, l, c, p, t, s] k ≤ 131072)) : boundV w l c p t s g = 0 := by
  unfold boundV
  exact if_neg fun hr => h (hr.at_ k)
theorem boundV_zero_g {w l c p t s g : Int} (h : ¬ (0 ≤ g ∧ g ≤ 1048576)) : boundV w l c p t s g = 0 := by
  unfold boundV
  exact if_neg fun hr => h hr.2.2.2.2.2.2
theorem six_cell {w : World} {g : Nat} {ty : TypeId} {a b c d e f : Int} (h : Blk w g ty #[.int .i64 a, .int .i64 b, .int .i64 c, .int .i64 d, .int .i64 e, .int .i64 f]) {k : Nat} (hk : k < 6) : w.cell? ⟨g, k, none⟩ = some (.int .i64 (ati [a, b, c, d, e, f] k)) := by
  rw [h.cell]
  match k, hk with
  | 0, _ => rfl
  | 1, _ => rfl
  | 2, _ => rfl
  | 3, _ => rfl
  | 4, _ => rfl
  | 5, _ => rfl
set_option maxHeartbeats 2000000 in
theorem bound_any (w l c p t s g : Int) (wl : World) (hi : (-9223372036854775808 ≤ g ∧ g ≤ 9223372036854775807)) :
    Calls Tryz.prog 8 #[.int .i64 w, .int .i64 l, .int .i64 c, .int .i64 p, .int .i64 t, .int .i64 s, .int .i64 g] wl fun e w' => e = .returned (.int .i64 (boundV w l c p t s g)) ∧ Below wl.heap.size wl w' := by
  obtain ⟨R, hR⟩ : ∃ R, R = boundV w l c p t s g := ⟨_, rfl⟩
  rw [← hR]
  have HR := Lib.hid hR
  clear hR
  by_cases hg : 0 ≤ g ∧ g ≤ 1048576
  · go_enter Tryz.func8, Tryz.ntmps8
    go_wp2_with fail
    have hB1 : Below wl.heap.size wl (wl.alloc (.cells #[.int .i64 w, .int .i64 l, .int .i64 c, .int .i64 p, .int .i64 t, .int .i64 s] 3)) := (Below.refl _ _).alloc (Nat.le_refl _) _
    have hK1 : Blk (wl.alloc (.cells #[.int .i64 w, .int .i64 l, .int .i64 c, .int .i64 p, .int .i64 t, .int .i64 s] 3)) wl.heap.size 3 #[.int .i64 w, .int .i64 l, .int .i64 c, .int .i64 p, .int .i64 t, .int .i64 s] := Blk.new _ _ _
    generalize hw1 : (wl.alloc (.cells #[.int .i64 w, .int .i64 l, .int .i64 c, .int .i64 p, .int .i64 t, .int .i64 s] 3)) = w1 at *
    go_loopw [34] (fun i wr => ∃ k : Nat, k ≤ 6 ∧ i = .int .i64 k ∧ OkTo [w, l, c, p, t, s] k ∧ wr = w1) (fun i _ => 6 - (intOf i).toNat)
    case atStart => exact ⟨0, by omega, rfl, fun i hi => absurd hi (Nat.not_lt_zero _), rfl⟩
    case round =>
      obtain ⟨k, hk, rfl, hok, rfl⟩ := hrel
      by_cases hlt : k < 6
      · have c0 := six_cell hK1 hlt
        generalize hv : ati [w, l, c, p, t, s] k = v at *
        by_cases h0 : 0 ≤ v
        · by_cases h1 : v ≤ 131072
          · go_wp2
            go_roundw
            case rel => exact ⟨k + 1, by omega, by go_num, hok.next (by omega) (by omega), trivial⟩
            case measure => simp [intOf]; omega
          · go_wp2
            go_ret
            exact ⟨ret_int (by rw [HR.out, boundV_zero (k := k) (by rw [hv]; omega)]), hB1⟩
        · go_wp2
          go_ret
          exact ⟨ret_int (by rw [HR.out, boundV_zero (k := k) (by rw [hv]; omega)]), hB1⟩
      · obtain rfl : k = 6 := by omega
        have hr := inRange_of hok hg
        have hp := prodOk hr
        have hR2 : R = runV w l c t g + t + g + (progV l t s g + 2) * seekV w l c p := by rw [HR.out]; exact if_pos hr
        go_wp2_with fail
        refine (parts_any w l c p t s g _ hr).mono ?_; rintro e w2 ⟨rfl, rfl⟩
        unfold ProdOk at hp
        obtain ⟨⟨_, _⟩, ⟨_, _⟩, ⟨_, _⟩, ⟨_, _⟩, ⟨_, _⟩⟩ := hp
        have hrv : 0 ≤ runV w l c t g ∧ runV w l c t g ≤ 27021597764222976 := by unfold runV; omega
        unfold InRange at hr
        have hpv : 0 ≤ progV l t s g ∧ progV l t s g ≤ 137444720644 := by unfold progV; omega
        generalize runV w l c t g = rv at *
        generalize progV l t s g = pv at *
        generalize seekV w l c p = sv at *
        go_wp2
        go_ret
        exact ⟨ret_int hR2.symm, hB1⟩
  · go_enter Tryz.func8, Tryz.ntmps8
    have hb := Lib.hid (boundV_zero_g (w := w) (l := l) (c := c) (p := p) (t := t) (s := s) hg)
    by_cases h0 : 0 ≤ g
    · have h1 : 1048576 < g := by omega
      clear hg
      go_wp2
      go_ret
      exact ⟨ret_int (by rw [HR.out, hb.out]), Below.refl _ _⟩
    · clear hg
      go_wp2
      go_ret
      exact ⟨ret_int (by rw [HR.out, hb.out]), Below.refl _ _⟩
set_option maxHeartbeats 2000000 in
theorem refBound_any (w l c p t s g : Int) (wl : World) (hi : (-9223372036854775808 ≤ g ∧ g ≤ 9223372036854775807)) :
    Calls Tryz.prog 9 #[.int .i64 w, .int .i64 l, .int .i64 c, .int .i64 p, .int .i64 t, .int .i64 s, .int .i64 g] wl fun e w' => e = .returned (.int .i64 (boundV w l c p t s g)) ∧ Below wl.heap.size wl w' := by
  obtain ⟨R, hR⟩ : ∃ R, R = boundV w l c p t s g := ⟨_, rfl⟩
  rw [← hR]
  have HR := Lib.hid hR
  clear hR
  go_enter Tryz.func9, Tryz.ntmps9
  go_wp2_with fail
  have hB1 : Below wl.heap.size wl (wl.alloc (.cells #[.int .i64 w, .int .i64 l, .int .i64 c, .int .i64 p, .int .i64 t, .int .i64 s] 45)) := (Below.refl _ _).alloc (Nat.le_refl _) _
  have hK1 : Blk (wl.alloc (.cells #[.int .i64 w, .int .i64 l, .int .i64 c, .int .i64 p, .int .i64 t, .int .i64 s] 45)) wl.heap.size 45 #[.int .i64 w, .int .i64 l, .int .i64 c, .int .i64 p, .int .i64 t, .int .i64 s] := Blk.new _ _ _
  generalize hw1 : (wl.alloc (.cells #[.int .i64 w, .int .i64 l, .int .i64 c, .int .i64 p, .int .i64 t, .int .i64 s] 45)) = w1 at *
  go_loopw [16] (fun i wr => ∃ k : Nat, k ≤ 6 ∧ i = .int .i64 k ∧ OkTo [w, l, c, p, t, s] k ∧ wr = w1) (fun i _ => 6 - (intOf i).toNat)
  case atStart => exact ⟨0, by omega, rfl, fun i hi => absurd hi (Nat.not_lt_zero _), rfl⟩
  case round =>
    obtain ⟨k, hk, rfl, hok, rfl⟩ := hrel
    by_cases hlt : k < 6
    · have c0 := six_cell hK1 hlt
      generalize hv : ati [w, l, c, p, t, s] k = v at *
      by_cases h0 : 0 ≤ v
      · by_cases h1 : v ≤ 131072
        · go_wp2
          go_roundw
          case rel => exact ⟨k + 1, by omega, by go_num, hok.next (by omega) (by omega), trivial⟩
          case measure => simp [intOf]; omega
        · go_wp2
          go_ret
          exact ⟨ret_int (by rw [HR.out, boundV_zero (k := k) (by rw [hv]; omega)]), hB1⟩
      · go_wp2
        go_ret
        exact ⟨ret_int (by rw [HR.out, boundV_zero (k := k) (by rw [hv]; omega)]), hB1⟩
    · obtain rfl : k = 6 := by omega
      by_cases hg : 0 ≤ g ∧ g ≤ 1048576
      · have hr := inRange_of hok hg
        have hp := prodOk hr
        have hR2 : R = runV w l c t g + t + g + (progV l t s g + 2) * seekV w l c p := by rw [HR.out]; exact if_pos hr
        clear hok
        unfold ProdOk at hp
        unfold runV at hR2
        unfold progV seekV at hp hR2
        obtain ⟨⟨_, _⟩, ⟨_, _⟩, ⟨_, _⟩, ⟨_, _⟩, ⟨_, _⟩⟩ := hp
        unfold InRange at hr
        obtain ⟨⟨_, _⟩, ⟨_, _⟩, ⟨_, _⟩, ⟨_, _⟩, ⟨_, _⟩, ⟨_, _⟩, ⟨_, _⟩⟩ := hr
        go_wp2
        go_ret
        exact ⟨ret_int hR2.symm, hB1⟩
      · have hb := Lib.hid (boundV_zero_g (w := w) (l := l) (c := c) (p := p) (t := t) (s := s) hg)
        by_cases h0 : 0 ≤ g
        · have h1 : 1048576 < g := by omega
          clear hg
          go_wp2
          go_ret
          exact ⟨ret_int (by rw [HR.out, hb.out]), hB1⟩
        · clear hg
          go_wp2
          go_ret
          exact ⟨ret_int (by rw [HR.out, hb.out]), hB1⟩
end
section
open Go Go.RowKit
theorem rounds_nil (A : Option Addr) (cap : Nat) (n : Int) (w : World) (hn : 1 ≤ n) :
    Calls Tryz.prog 26 #[.slice A 0 cap, .int .i64 n] w fun e w' => e = .returned (.int .i64 0) ∧ Below w.heap.size w w' := by
  have hmm := @run_makeMap Tryz.prog
  go_enter Tryz.func26, Tryz.ntmps26
  go_wp2
  go_step3
  go_wp2
  go_step3
  go_wp2
  go_rounds 1
  all_goals (try (apply_assumption; go_wp2))
  rw [Exit.noGoto_ret]
  go_ret
  exact ⟨rfl, (Below.refl _ _).alloc (Nat.le_refl _) _⟩
end
section
open Go Go.RowKit
theorem sat_bI {S : Shp} {B : Nat} {w : World} {L : List SProp} {x : Bool} (s : Sat B w L) : Sat B w (pcS S.kt (.b x) (.bool x) :: L) := sat_pureI s fun _ => ⟨0, rfl⟩
/-- A function of a configuration that answers a number. -/
theorem co_cfgI {f : FuncId} (hf : Nat.blt f mBase = true) {r : Cfg → Int} (h : ∀ (c : Cfg) (l : CfgAt) (w : World), CfgIn w w.heap.size c l → Calls Tryz.prog f #[cfgV c l] w fun e w' => e = .returned (.int .i64 (r c)) ∧ Below w.heap.size w w') :
    CO Tryz.prog (⟨f, [.val 13], [.sh sI_], fun x => some ((r x.1, ()), ())⟩ : Con SR1) := fun x out hx B W vs F w hc => by
  obtain ⟨hb, hB, hs⟩ := hc
  replace hx : (some ((r x.1, ()), ()) : Option ((Int × Unit) × Unit)) = some out := hx
  obtain rfl := Option.some.inj hx
  show CallsM Tryz.prog f _ w _
  rw [callsM_fn hf]
  rcases vs with _ | ⟨v1, _ | ⟨v2, vs⟩⟩
  · exact sat_false hs
  · replace hs : Sat B w (valS SR1 13 x.1 v1 :: [F]) := hs
    obtain ⟨p, rfl, hp, s1⟩ := sat_cfg hs
    exact (h x.1 p w hp).mono fun e w' ⟨he, hb'⟩ => ⟨[.int .i64 (r x.1)], he, hb.trans (hb'.mono hB), Nat.le_trans hB hb'.size, sat_iI (S := SR1) (s1.below hb')⟩
  · replace hs : Sat B w (valS SR1 13 x.1 v1 :: ([fun _ => False] ++ [F])) := hs
    exact sat_false hs.drop
theorem co_cfgB {f : FuncId} (hf : Nat.blt f mBase = true) {r : Cfg → Bool} (h : ∀ (c : Cfg) (l : CfgAt) (w : World), CfgIn w w.heap.size c l → Calls Tryz.prog f #[cfgV c l] w fun e w' => e = .returned (.bool (r c)) ∧ Below w.heap.size w w') :
    CO Tryz.prog (⟨f, [.val 13], [.sh .b], fun x => some ((r x.1, ()), ())⟩ : Con SR1) := fun x out hx B W vs F w hc => by
  obtain ⟨hb, hB, hs⟩ := hc
  replace hx : (some ((r x.1, ()), ()) : Option ((Bool × Unit) × Unit)) = some out := hx
  obtain rfl := Option.some.inj hx
  show CallsM Tryz.prog f _ w _
  rw [callsM_fn hf]
  rcases vs with _ | ⟨v1, _ | ⟨v2, vs⟩⟩
  · exact sat_false hs
  · replace hs : Sat B w (valS SR1 13 x.1 v1 :: [F]) := hs
    obtain ⟨p, rfl, hp, s1⟩ := sat_cfg hs
    exact (h x.1 p w hp).mono fun e w' ⟨he, hb'⟩ => ⟨[.bool (r x.1)], he, hb.trans (hb'.mono hB), Nat.le_trans hB hb'.size, sat_bI (S := SR1) (s1.below hb')⟩
  · replace hs : Sat B w (valS SR1 13 x.1 v1 :: ([fun _ => False] ++ [F])) := hs
    exact sat_false hs.drop
def cfgCheck (c : Cfg) : Option ((Int × Unit) × Unit) := some ((cfgErr c, ()), ())
noncomputable abbrev cfgCheck_k : Con SR1 := ⟨19, [.val 13], [.sh sI_], fun x => cfgCheck x.1⟩
theorem cfgCheck_ok : CO Tryz.prog cfgCheck_k := co_cfgI (by kernel_rfl) cfgCheck_any
def refCheck (c : Cfg) : Option ((Int × Unit) × Unit) := some ((cfgErr c, ()), ())
noncomputable abbrev refCheck_k : Con SR1 := ⟨21, [.val 13], [.sh sI_], fun x => refCheck x.1⟩
theorem refCheck_ok : CO Tryz.prog refCheck_k := co_cfgI (by kernel_rfl) refCheck_any
def refSmall (c : Cfg) : Option ((Bool × Unit) × Unit) := some ((smallB c, ()), ())
noncomputable abbrev refSmall_k : Con SR1 := ⟨11, [.val 13], [.sh .b], fun x => refSmall x.1⟩
theorem refSmall_ok : CO Tryz.prog refSmall_k := co_cfgB (by kernel_rfl) small_any
/-- A number is in range. -/
abbrev Rg64 (g : Int) : Prop := -9223372036854775808 ≤ g ∧ g ≤ 9223372036854775807
def bndS (a b c d e f g : Int) : Option ((Int × Unit) × Unit) := if Rg64 g then some ((boundV a b c d e f g, ()), ()) else none
theorem co_seven {f : FuncId} (hf : Nat.blt f mBase = true) (h : ∀ (w l c p t s g : Int) (wl : World), Rg64 g → Calls Tryz.prog f #[.int .i64 w, .int .i64 l, .int .i64 c, .int .i64 p, .int .i64 t, .int .i64 s, .int .i64 g] wl fun e w' => e = .returned (.int .i64 (boundV w l c p t s g)) ∧ Below wl.heap.size wl w') :
    CO Tryz.prog (⟨f, [.sh sI_, .sh sI_, .sh sI_, .sh sI_, .sh sI_, .sh sI_, .sh sI_], [.sh sI_], fun x => bndS x.1 x.2.1 x.2.2.1 x.2.2.2.1 x.2.2.2.2.1 x.2.2.2.2.2.1 x.2.2.2.2.2.2.1⟩ : Con SR1) := fun x out hx B W vs F w hc => by
  obtain ⟨hb, hB, hs⟩ := hc
  obtain ⟨(a : Int), (b : Int), (c : Int), (d : Int), (e : Int), (f' : Int), (g : Int), _⟩ := x
  replace hx : bndS a b c d e f' g = some out := hx
  unfold bndS at hx
  split at hx
  · rename_i hg
    obtain rfl := Option.some.inj hx
    show CallsM Tryz.prog f _ w _
    rw [callsM_fn hf]
    replace hs : Sat B w (PreS SR1 [.sh sI_, .sh sI_, .sh sI_, .sh sI_, .sh sI_, .sh sI_, .sh sI_] (a, b, c, d, e, f', g, ()) vs ++ [F]) := hs
    rcases vs with _ | ⟨v1, vs⟩
    · exact sat_false hs
    obtain ⟨rfl, s1⟩ := sat_i (S := SR1) (k := .i64) (x := a) (L := PreS SR1 [.sh sI_, .sh sI_, .sh sI_, .sh sI_, .sh sI_, .sh sI_] (b, c, d, e, f', g, ()) vs ++ [F]) hs
    rcases vs with _ | ⟨v2, vs⟩
    · exact sat_false s1
    obtain ⟨rfl, s2⟩ := sat_i (S := SR1) (k := .i64) (x := b) (L := PreS SR1 [.sh sI_, .sh sI_, .sh sI_, .sh sI_, .sh sI_] (c, d, e, f', g, ()) vs ++ [F]) s1
    rcases vs with _ | ⟨v3, vs⟩
    · exact sat_false s2
    obtain ⟨rfl, s3⟩ := sat_i (S := SR1) (k := .i64) (x := c) (L := PreS SR1 [.sh sI_, .sh sI_, .sh sI_, .sh sI_] (d, e, f', g, ()) vs ++ [F]) s2
    rcases vs with _ | ⟨v4, vs⟩
    · exact sat_false s3
    obtain ⟨rfl, s4⟩ := sat_i (S := SR1) (k := .i64) (x := d) (L := PreS SR1 [.sh sI_, .sh sI_, .sh sI_] (e, f', g, ()) vs ++ [F]) s3
    rcases vs with _ | ⟨v5, vs⟩
    · exact sat_false s4
    obtain ⟨rfl, s5⟩ := sat_i (S := SR1) (k := .i64) (x := e) (L := PreS SR1 [.sh sI_, .sh sI_] (f', g, ()) vs ++ [F]) s4
    rcases vs with _ | ⟨v6, vs⟩
    · exact sat_false s5
    obtain ⟨rfl, s6⟩ := sat_i (S := SR1) (k := .i64) (x := f') (L := PreS SR1 [.sh sI_] (g, ()) vs ++ [F]) s5
    rcases vs with _ | ⟨v7, vs⟩
    · exact sat_false s6
    obtain ⟨rfl, s7⟩ := sat_i (S := SR1) (k := .i64) (x := g) (L := PreS SR1 [] () vs ++ [F]) s6
    rcases vs with _ | ⟨v8, vs⟩
    · exact (h a b c d e f' g w hg).mono fun e' w' ⟨he, hb'⟩ => ⟨[.int .i64 (boundV a b c d e f' g)], he, hb.trans (hb'.mono hB), Nat.le_trans hB hb'.size, sat_iI (S := SR1) (s7.below hb')⟩
    · exact sat_false s7
  · cases hx
def bndBound (a b c d e f g : Int) : Option ((Int × Unit) × Unit) := if Rg64 g then some ((boundV a b c d e f g, ()), ()) else none
noncomputable abbrev bndBound_k : Con SR1 := ⟨8, [.sh sI_, .sh sI_, .sh sI_, .sh sI_, .sh sI_, .sh sI_, .sh sI_], [.sh sI_], fun x => bndBound x.1 x.2.1 x.2.2.1 x.2.2.2.1 x.2.2.2.2.1 x.2.2.2.2.2.1 x.2.2.2.2.2.2.1⟩
theorem bndBound_ok : CO Tryz.prog bndBound_k := co_seven (by kernel_rfl) bound_any
def refBound (a b c d e f g : Int) : Option ((Int × Unit) × Unit) := if Rg64 g then some ((boundV a b c d e f g, ()), ()) else none
noncomputable abbrev refBound_k : Con SR1 := ⟨9, [.sh sI_, .sh sI_, .sh sI_, .sh sI_, .sh sI_, .sh sI_, .sh sI_], [.sh sI_], fun x => refBound x.1 x.2.1 x.2.2.1 x.2.2.2.1 x.2.2.2.2.1 x.2.2.2.2.2.1 x.2.2.2.2.2.2.1⟩
theorem refBound_ok : CO Tryz.prog refBound_k := co_seven (by kernel_rfl) refBound_any
def scRounds (l : List EntV) (n : Int) : Option ((Int × Unit) × Unit) := if l = [] then (if 1 ≤ n then some ((0, ()), ()) else none) else none
noncomputable abbrev scRounds_k : Con SR1 := ⟨26, [.sh (.ro 5), .sh sI_], [.sh sI_], fun x => scRounds x.1 x.2.1⟩
theorem scRounds_ok : CO Tryz.prog scRounds_k := fun x out hx B W vs F w hc => by
  obtain ⟨hb, hB, hs⟩ := hc
  obtain ⟨(l : List EntV), (n : Int), _⟩ := x
  replace hx : scRounds l n = some out := hx
  unfold scRounds at hx
  split at hx
  · rename_i hl
    subst hl
    split at hx
    · rename_i hn
      obtain rfl := Option.some.inj hx
      show CallsM Tryz.prog _ _ w _
      rw [callsM_fn (by kernel_rfl)]
      replace hs : Sat B w (PreS SR1 [.sh (.ro 5), .sh sI_] (([] : List EntV), n, ()) vs ++ [F]) := hs
      rcases vs with _ | ⟨v1, vs⟩
      · exact sat_false hs
      obtain ⟨A, cap, rfl, _⟩ := sat_ro (S := SR1) (c := 5) (xs := []) (L := PreS SR1 [.sh sI_] (n, ()) vs ++ [F]) hs
      have s1 : Sat B w (PreS SR1 [.sh sI_] (n, ()) vs ++ [F]) := hs.drop
      rcases vs with _ | ⟨v2, vs⟩
      · exact sat_false s1
      obtain ⟨rfl, s2⟩ := sat_i (S := SR1) (k := .i64) (x := n) (L := PreS SR1 [] () vs ++ [F]) s1
      rcases vs with _ | ⟨v3, vs⟩
      · exact (rounds_nil A cap n w hn).mono fun e' w' ⟨he, hb'⟩ => ⟨[.int .i64 0], he, hb.trans (hb'.mono hB), Nat.le_trans hB hb'.size, sat_iI (S := SR1) (s2.below hb')⟩
      · exact sat_false s2
    · cases hx
  · cases hx
end
end Go.Proofs.YtnfblhckpmofcaaGreat
