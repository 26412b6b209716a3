/- From the readings of the arguments to our words: bytes, ints. From the readings of the arguments to our words: bytes alone. The table that words.Low looks at lies in block 0 of every world that fits: 64 bytes, whatever they are. What is needed of a configuration's types. Walks: slices.Clone at the slices of a configuration. slices.Clone at the slices of a configuration, in the evaluator's words. Walks: the checks of a configuration (config and its reference), function by function. Walks: the checks of a configuration's programs and submissions (config). The check of a configuration, in the evaluator's words. What it means that an answer is there; numbers; loops. Walks: park.Asleep. park.Asleep in the evaluator's form. bits.TrailingZeros64 over any table. Walks: slices.Clone at the rows of an environment. slices.Clone at the rows of an environment, in the evaluator's words. -/
import Derived.Test.YtlcelajkhklkbaaGreatAqai
import Derived.HandedShaped
import Derived.Test.YtlcelajkhklkbaaGreatRows
import Derived.Test.YtlcelajkhklkbaaGreatAqaa
import Derived.Laws.AppendOwn
import Derived.Lib.SliceRun
import Derived.WalkKit
set_option linter.all false
namespace Go.Proofs.YtlcelajkhklkbaaGreat
section
open Go.ChangeShapes Go.WideShapes Go.RowKit Go.Deep
set_option maxRecDepth 100000
theorem atG : Tryz.prog.cellsOf 5 = 1 := by kernel_rfl
section
variable {H : Type} {enc : TypeId × Value → H} {w : World} {base : Nat} {spare : Nat → Bool} {held : Bool}
theorem atK (n : Nat) (cs : List Value) (d : DataW H × List MemPlace) (h : DataW.trod enc Tryz.prog w base spare held n 5 cs = some d) (_ : cs.length = 1) : ∃ y : Int, (0 ≤ y ∧ y ≤ 255) ∧ cs = aea SR1.kt 17 y := by
  obtain ⟨z, hz, _, hw⟩ := DataW.trod_int Tryz.underlying5 h
  simp [Lit.wf, IntKind.min, IntKind.max, IntKind.bits, IntKind.signed] at hw
  exact ⟨z, by omega, hz⟩
theorem asc {t e : TypeId} {r : Reach} {b0 : Nat} {v : Value} {A : Option Addr} {n cap : Nat} (ht : Tryz.prog.underlying t = some (.slice e)) (hv : Value.okWide Tryz.prog w r b0 t v) (h1 : v.cells.toList = [.slice A n cap]) : v = .slice A n cap := by
  obtain ⟨a, len, c, rfl⟩ := okWide_slice ht hv
  simp [Value.cells] at h1
  rw [h1.1, h1.2.1, h1.2.2]
theorem azS {c : Nat} {l : List (SR1.T c)} {v : Value} {A : Option Addr} {cap : Nat} {L : List aah} (hz : 0 < SR1.kt.sz c) (henc : ∀ x, (aea SR1.kt c x).length = SR1.kt.sz c) (hv : v = .slice A l.length cap) (hS : Sl (aea SR1.kt c) (SR1.kt.sz c) w w.heap.size A l) (hc : l.length ≤ cap) (s : Sat w.heap.size w L) : Sat w.heap.size w (pcS SR1.kt (.ro c l) v :: L) :=
  aa1 (fun h hr => ⟨0, A, cap, hv, hr⟩) (ayk hz henc hS hc s)
theorem aro {v : Value} {d : DataW H} {p : List MemPlace} {r : Reach} {b0 : Nat} (hv : Value.okWide Tryz.prog w r b0 22 v) (h : DataW.Trod enc Tryz.prog w base spare held 22 v d p) : ∃ l : List Int, (∀ x ∈ l, 0 ≤ x ∧ x ≤ 255) ∧ ∀ {L}, Sat w.heap.size w L → Sat w.heap.size w (pcS SR1.kt (.ro 17 l) v :: L) := by
  obtain ⟨fuel, hf⟩ := h
  obtain ⟨A, cap, xs, h1, h2, h3, h4⟩ := awy Tryz.underlying22 atG (by decide) atK hf
  exact ⟨xs, h3, fun s => azS (c := 17) (by decide) (fun _ => rfl) (asc Tryz.underlying22 hv h1) h2 h4 s⟩
end
theorem as3 [Tb] {f : FuncId} {ps : List Pk} {spec : amy SR1 ps → Option (amB SR1 [.sh .b] × akA SR1 ps)} {P : Program} (hf : Nat.blt f afz = true) (h : at6 SR1 P f ps [.sh .b] spec) {x : amy SR1 ps} {o : akA SR1 ps} (hx : spec x = some ((true, ()), o)) {vs : List Value} {w : World} (hg : ax8 w.heap.size w) (s : Sat w.heap.size w (amz SR1 ps x vs ++ [fun _ => True])) :
    Calls P f vs.toArray w fun e w' => e = .returned (.bool true) ∧ Below w.heap.size w w' := by
  have h0 := h x _ hx w.heap.size w hg vs (fun _ => True) w ⟨Below.refl _ _, Nat.le_refl _, s⟩
  rw [ac9 hf] at h0
  refine h0.mono fun e w' ⟨us, he, hb, _, s'⟩ => ?_
  rcases us with _ | ⟨u, _ | ⟨u2, us⟩⟩
  · exact aaG s'
  · have s2 : Sat w.heap.size w' (akW (u = .bool true) :: _) := aa1 (ajp (f := .b true) (fun _ h => h) fun _ _ h => h) s'
    obtain ⟨_, _, _, _, _, _, h1, _⟩ := s2
    subst h1
    exact ⟨he, hb⟩
  · exact aaG s'.drop
section
variable {H : Type} {enc : TypeId × Value → H} {w : World} {base : Nat} {spare : Nat → Bool} {held : Bool}
theorem axQ {v : Value} {d : DataW H} {p : List MemPlace} {r : Reach} {b0 : Nat} (hv : Value.okWide Tryz.prog w r b0 5 v) (h : DataW.Trod enc Tryz.prog w base spare held 5 v d p) : ∃ z : Int, (0 ≤ z ∧ z ≤ 255) ∧ ∀ {L}, Sat w.heap.size w L → Sat w.heap.size w (pcS SR1.kt (.i .u8 z) v :: L) := by
  obtain ⟨n, rfl⟩ := okWide_int Tryz.underlying5 hv
  obtain ⟨fuel, hf⟩ := h
  obtain ⟨z, hz, _, hw⟩ := DataW.trod_int Tryz.underlying5 hf
  simp [Value.cells] at hz
  subst hz
  simp [Lit.wf, IntKind.min, IntKind.max, IntKind.bits, IntKind.signed] at hw
  exact ⟨n, by omega, fun s => avB (S := SR1) s⟩
end
end
section
open Go
set_option maxRecDepth 100000
def atb (P : Program) : Bool := match ((begin P (fun _ _ => 0) default).world.heap[0]?).bind Obj.row? with
  | none => false
  | some (z, t) => Nat.beq z.size 64 && P.buildable t && (match P.cellTypes P.depth t with
    | none => false
    | some ts => ts.all fun u => match P.underlying u with
      | some (.int .u8) => true
      | _ => false)
theorem ata : atb Tryz.prog = true := by kernel_rfl
theorem axq {P : Program} {w : World} (ht : atb P = true) (hp : 0 < P.globals.size) (h : w.ShapedOpen P) : ∃ T : Tb, ax8 w.heap.size w := by
  unfold atb at ht
  split at ht
  · cases ht
  rename_i z t h0
  split at ht
  · simp at ht
  rename_i ts hts
  simp only [Bool.and_eq_true, List.all_eq_true] at ht
  obtain ⟨⟨hz, hb⟩, ha⟩ := ht
  have hz : z.size = 64 := Nat.eq_of_beq_eq_true hz
  obtain ⟨cs, hh, hs, hr⟩ := h.1 0 z t hp h0
  obtain ⟨ts', hts', _, hall⟩ := hr hb
  rw [hts] at hts'
  cases hts'
  have hc : ∀ i : Nat, i < 64 → ∃ n : Int, (0 ≤ n ∧ n ≤ 255) ∧ w.cell? ⟨0, i, none⟩ = some (.int .u8 n) := fun i hi => by
    have h1 : i < cs.size := by omega
    obtain ⟨u, hu, hok⟩ := hall i cs[i] (by simp [h1])
    have hm := ha u (List.mem_of_getElem? hu)
    have hcell : w.cell? ⟨0, i, none⟩ = some cs[i] := by simp [World.cell?, hh, h1]
    rw [hcell]
    unfold Cell.ok at hok
    split at hm
    · rename_i hu8
      rw [hu8] at hok
      cases hv : cs[i] <;> rw [hv] at hok <;> simp at hok
      case int k' n =>
        obtain ⟨rfl, hn⟩ := hok
        have hn : IntKind.u8.min ≤ n ∧ n ≤ IntKind.u8.max := hn
        simp [IntKind.min, IntKind.max, IntKind.bits, IntKind.signed] at hn
        exact ⟨n, by omega, rfl⟩
    · cases hm
  have hpos : 0 < w.heap.size := by
    rcases Nat.eq_zero_or_pos w.heap.size with e | e
    · rw [Array.getElem?_eq_none (by omega)] at hh; cases hh
    · exact e
  classical
  refine ⟨⟨fun i => if hi : i < 64 then (hc i hi).choose else 0, fun i => ?_⟩, hpos, fun i hi => ?_⟩
  · split
    · rename_i hi; exact (hc i hi).choose_spec.1
    · omega
  · show w.cell? _ = some (.int .u8 (if hi : i < 64 then (hc i hi).choose else 0))
    rw [dif_pos hi]
    exact (hc i hi).choose_spec.2
end
section
open Go.RowKit
def ak4 (x : Option Addr × Nat × Nat) : List Value := [.slice x.1 x.2.1 x.2.2]
theorem ajm {w : World} {base : Nat} {e : TypeId} {size : Nat} {v : Value} {n : Nat} {xs : List Value} (h : w.ownsRow base e size v n xs) : ∃ A cap, v = .slice A n cap := by
  rcases h.2 with ⟨rfl, rfl⟩ | ⟨g, cap, cur, rfl, _⟩
  · exact ⟨_, _, rfl⟩
  · exact ⟨_, _, rfl⟩
theorem axo : (Tryz.prog.info? 27).map (fun i => (i.zero, i.size, i.bytes)) = some (some (.agg #[.int .i64 0, .int .i64 0, .int .i64 0]), 3, 24) := by kernel_rfl
theorem av8 : (Tryz.prog.info? 64).map (fun i => (i.zero, i.size, i.bytes)) = some (some (.agg #[.int .i64 0, .int .i64 0, .int .i64 0]), 3, 24) := by kernel_rfl
theorem awO : (Tryz.prog.info? 24).map (fun i => (i.zero, i.size, i.bytes)) = some (some (.slice none 0 0), 1, 24) := by kernel_rfl
theorem ao5 {α : Type} {enc : α → List Value} {sz : Nat} (henc : ∀ x, (enc x).length = sz) : ∀ (xs : List α) (i : Nat) (x : α), xs[i]? = some x → ∀ (j : Nat) u, (enc x)[j]? = some u → (xs.flatMap enc)[i * sz + j]? = some u
  | [], _, _, h, _, _, _ => by simp at h
  | y :: ys, 0, x, h, j, u, hu => by
    simp at h; subst h
    have hj : j < (enc y).length := by
      rcases Nat.lt_or_ge j (enc y).length with h | h
      · exact h
      · rw [List.getElem?_eq_none h] at hu; cases hu
    rw [List.flatMap_cons, Nat.zero_mul, Nat.zero_add, List.getElem?_append_left hj]; exact hu
  | y :: ys, i + 1, x, h, j, u, hu => by
    simp at h
    rw [List.flatMap_cons, List.getElem?_append_right (by rw [henc, Nat.succ_mul]; omega), henc, show (i + 1) * sz + j - sz = i * sz + j from by rw [Nat.succ_mul]; omega]
    exact ao5 henc ys i x h j u hu
end
section
open Go.RowKit Go.Maps
def anm {α : Type} (enc : α → List Value) (sz : Nat) (el : TypeId) (w : World) (xs : List α) (e : Ending) (w' : World) : Prop :=
  (∃ A' c', e = .returned (.slice A' xs.length c') ∧ w'.ownsRow w.heap.size el sz (.slice A' xs.length c') xs.length (xs.flatMap enc)) ∧ Below w.heap.size w w'
theorem agE {α : Type} {enc : α → List Value} {sz : Nat} (henc : ∀ x, (enc x).length = sz) : ∀ xs : List α, (xs.flatMap enc).length = xs.length * sz
  | [] => by simp
  | x :: xs => by rw [List.flatMap_cons, List.length_append, agE henc xs, henc, List.length_cons, Nat.succ_mul, Nat.add_comm]
theorem ant {α : Type} {enc : α → List Value} {sz : Nat} (henc : ∀ x, (enc x).length = sz) (hsz : 0 < sz) {w : World} {B : Nat} {a : Addr} {xs : List α} (hx : Sl enc sz w B (some a) xs) (ob : Obj) :
    ∀ j u, (xs.flatMap enc)[j]? = some u → (w.alloc ob).cell? (a.add j) = some u := by
  intro j u hj
  have hjl : j < (xs.flatMap enc).length := (List.getElem?_eq_some_iff.1 hj).1
  have hne : xs ≠ [] := by intro e; subst e; simp at hjl
  obtain ⟨b, o, e, hb, hc⟩ := hx.2 hne
  injection e with e
  subst e
  have hA : (⟨b, o, none⟩ : Addr).add j = ⟨b, o + j, none⟩ := by unfold Addr.add; split <;> simp_all
  rw [hA]
  refine Lib.cell?_alloc_some _ ?_
  rw [agE henc] at hjl
  have hi : j / sz < xs.length := (Nat.div_lt_iff_lt_mul hsz).2 hjl
  have hm : j % sz < (enc xs[j / sz]).length := by rw [henc]; exact Nat.mod_lt _ hsz
  have hg := ao5 (enc := enc) (sz := sz) henc xs (j / sz) xs[j / sz] (List.getElem?_eq_getElem hi) (j % sz) _ (List.getElem?_eq_getElem hm)
  have hjj : j / sz * sz + j % sz = j := by rw [Nat.mul_comm]; exact Nat.div_add_mod _ _
  rw [hjj, hj] at hg
  injection hg with hg
  have hc' := hc (j / sz) _ (List.getElem?_eq_getElem hi) (j % sz) _ (List.getElem?_eq_getElem hm)
  rw [hg]
  rw [Nat.add_assoc, hjj] at hc'
  exact hc'
set_option maxHeartbeats 2000000 in
theorem ape (A : Option Addr) (cap : Nat) (xs : List Ins) (w : World) (hx : Sl Ins.enc 3 w w.heap.size A xs) (hn : xs.length ≤ 1000000) :
    Calls Tryz.prog 63 #[.slice A xs.length cap] w (anm Ins.enc 3 27 w xs) := by
  cases A with
  | none =>
    have hnil : xs = [] := by
      rcases xs with _ | ⟨x, xs⟩
      · rfl
      · obtain ⟨b, o, e, _⟩ := hx.2 (by simp)
        cases e
    subst hnil
    have q : ∀ (w : World) (a : Option Addr) (n c n' c' : Nat), (binOp .eql 24 (.slice a n c) (.slice none n' c')).run Tryz.prog w = .ok (.bool a.isNone) w := fun w a n c n' c' => Lib.run_eql_slice_nil w _ _ a n c n' c' Tryz.underlying24
    go_enter Tryz.func63, Tryz.ntmps63
    go_wp2
    go_ret
    exact ⟨⟨none, 0, rfl, World.ownsRow_nil _ _ _ _⟩, Below.refl _ _⟩
  | some a =>
    obtain ⟨i0, hi, hz0, hz1, hz2⟩ := info_parts axo
    have q : ∀ (w : World) (a : Option Addr) (n c n' c' : Nat), (binOp .eql 24 (.slice a n c) (.slice none n' c')).run Tryz.prog w = .ok (.bool a.isNone) w := fun w a n c n' c' => Lib.run_eql_slice_nil w _ _ a n c n' c' Tryz.underlying24
    have hcell := Lib.hid (ant (sz := 3) (w := w) (B := w.heap.size) (fun _ => rfl) (by decide) hx (Obj.cells #[] 27))
    clear hx
    go_enter Tryz.func63, Tryz.ntmps63
    go_wp2_with (at_builtin; refine wpList_append_own_at _ rfl _ _ 24 rfl w.heap.size 27 i0 (.agg #[.int .i64 0, .int .i64 0, .int .i64 0]) 3 24 Tryz.underlying24 hi hz0 hz1 hz2 rfl (by decide) _ _ _ rfl (World.ownsRow_made w #[] 0 (Nat.le_refl _) (Nat.zero_le _) rfl) a xs.length cap (xs.flatMap Ins.enc) rfl ?qc0 ?qc1 ?qc2 ?qc3 ?qc4 ?qc5 ?_)
    case qc0 => exact agE (enc := Ins.enc) (sz := 3) (fun _ => rfl) xs
    case qc1 => exact hcell.out
    case qc2 => intro u hu; rw [List.mem_flatMap] at hu; obtain ⟨x, _, hu⟩ := hu; simp [Ins.enc] at hu; rcases hu with rfl | rfl | rfl <;> rfl
    case qc3 => unfold maxLen; omega
    case qc4 => omega
    case qc5 => simp
    intro v' w1 hown hgrow _ _
    obtain ⟨A', c', hv⟩ := ajm hown
    subst hv
    clear hcell
    go_wp2
    go_ret
    exact ⟨⟨A', c', by simp, by simpa using hown⟩, ((Below.refl _ w).alloc (Nat.le_refl _) _).grown hgrow (by simp) (by intro k hk; simp [Value.ownBlock] at hk; omega)⟩
set_option maxHeartbeats 2000000 in
theorem an4 (A : Option Addr) (cap : Nat) (xs : List (Option Addr × Nat × Nat)) (w : World) (hx : Sl ak4 1 w w.heap.size A xs) (hn : xs.length ≤ 1000000) :
    Calls Tryz.prog 62 #[.slice A xs.length cap] w (anm ak4 1 24 w xs) := by
  cases A with
  | none =>
    have hnil : xs = [] := by
      rcases xs with _ | ⟨x, xs⟩
      · rfl
      · obtain ⟨b, o, e, _⟩ := hx.2 (by simp)
        cases e
    subst hnil
    have q : ∀ (w : World) (a : Option Addr) (n c n' c' : Nat), (binOp .eql 28 (.slice a n c) (.slice none n' c')).run Tryz.prog w = .ok (.bool a.isNone) w := fun w a n c n' c' => Lib.run_eql_slice_nil w _ _ a n c n' c' Tryz.underlying28
    go_enter Tryz.func62, Tryz.ntmps62
    go_wp2
    go_ret
    exact ⟨⟨none, 0, rfl, World.ownsRow_nil _ _ _ _⟩, Below.refl _ _⟩
  | some a =>
    obtain ⟨i0, hi, hz0, hz1, hz2⟩ := info_parts awO
    have q : ∀ (w : World) (a : Option Addr) (n c n' c' : Nat), (binOp .eql 28 (.slice a n c) (.slice none n' c')).run Tryz.prog w = .ok (.bool a.isNone) w := fun w a n c n' c' => Lib.run_eql_slice_nil w _ _ a n c n' c' Tryz.underlying28
    have hcell := Lib.hid (ant (sz := 1) (w := w) (B := w.heap.size) (fun _ => rfl) (by decide) hx (Obj.cells #[] 24))
    clear hx
    go_enter Tryz.func62, Tryz.ntmps62
    go_wp2_with (at_builtin; refine wpList_append_own_at _ rfl _ _ 28 rfl w.heap.size 24 i0 (.slice none 0 0) 1 24 Tryz.underlying28 hi hz0 hz1 hz2 rfl (by decide) _ _ _ rfl (World.ownsRow_made w #[] 0 (Nat.le_refl _) (Nat.zero_le _) rfl) a xs.length cap (xs.flatMap ak4) rfl ?qc0 ?qc1 ?qc2 ?qc3 ?qc4 ?qc5 ?_)
    case qc0 => exact agE (enc := ak4) (sz := 1) (fun _ => rfl) xs
    case qc1 => exact hcell.out
    case qc2 => intro u hu; rw [List.mem_flatMap] at hu; obtain ⟨x, _, hu⟩ := hu; simp [ak4] at hu; rcases hu with rfl; rfl
    case qc3 => unfold maxLen; omega
    case qc4 => omega
    case qc5 => simp
    intro v' w1 hown hgrow _ _
    obtain ⟨A', c', hv⟩ := ajm hown
    subst hv
    clear hcell
    go_wp2
    go_ret
    exact ⟨⟨A', c', by simp, by simpa using hown⟩, ((Below.refl _ w).alloc (Nat.le_refl _) _).grown hgrow (by simp) (by intro k hk; simp [Value.ownBlock] at hk; omega)⟩
set_option maxHeartbeats 2000000 in
theorem an2 (A : Option Addr) (cap : Nat) (xs : List Sub) (w : World) (hx : Sl Sub.enc 3 w w.heap.size A xs) (hn : xs.length ≤ 1000000) :
    Calls Tryz.prog 64 #[.slice A xs.length cap] w (anm Sub.enc 3 64 w xs) := by
  cases A with
  | none =>
    have hnil : xs = [] := by
      rcases xs with _ | ⟨x, xs⟩
      · rfl
      · obtain ⟨b, o, e, _⟩ := hx.2 (by simp)
        cases e
    subst hnil
    have q : ∀ (w : World) (a : Option Addr) (n c n' c' : Nat), (binOp .eql 29 (.slice a n c) (.slice none n' c')).run Tryz.prog w = .ok (.bool a.isNone) w := fun w a n c n' c' => Lib.run_eql_slice_nil w _ _ a n c n' c' Tryz.underlying29
    go_enter Tryz.func64, Tryz.ntmps64
    go_wp2
    go_ret
    exact ⟨⟨none, 0, rfl, World.ownsRow_nil _ _ _ _⟩, Below.refl _ _⟩
  | some a =>
    obtain ⟨i0, hi, hz0, hz1, hz2⟩ := info_parts av8
    have q : ∀ (w : World) (a : Option Addr) (n c n' c' : Nat), (binOp .eql 29 (.slice a n c) (.slice none n' c')).run Tryz.prog w = .ok (.bool a.isNone) w := fun w a n c n' c' => Lib.run_eql_slice_nil w _ _ a n c n' c' Tryz.underlying29
    have hcell := Lib.hid (ant (sz := 3) (w := w) (B := w.heap.size) (fun _ => rfl) (by decide) hx (Obj.cells #[] 64))
    clear hx
    go_enter Tryz.func64, Tryz.ntmps64
    go_wp2_with (at_builtin; refine wpList_append_own_at _ rfl _ _ 29 rfl w.heap.size 64 i0 (.agg #[.int .i64 0, .int .i64 0, .int .i64 0]) 3 24 Tryz.underlying29 hi hz0 hz1 hz2 rfl (by decide) _ _ _ rfl (World.ownsRow_made w #[] 0 (Nat.le_refl _) (Nat.zero_le _) rfl) a xs.length cap (xs.flatMap Sub.enc) rfl ?qc0 ?qc1 ?qc2 ?qc3 ?qc4 ?qc5 ?_)
    case qc0 => exact agE (enc := Sub.enc) (sz := 3) (fun _ => rfl) xs
    case qc1 => exact hcell.out
    case qc2 => intro u hu; rw [List.mem_flatMap] at hu; obtain ⟨x, _, hu⟩ := hu; simp [Sub.enc] at hu; rcases hu with rfl | rfl | rfl <;> rfl
    case qc3 => unfold maxLen; omega
    case qc4 => omega
    case qc5 => simp
    intro v' w1 hown hgrow _ _
    obtain ⟨A', c', hv⟩ := ajm hown
    subst hv
    clear hcell
    go_wp2
    go_ret
    exact ⟨⟨A', c', by simp, by simpa using hown⟩, ((Below.refl _ w).alloc (Nat.le_refl _) _).grown hgrow (by simp) (by intro k hk; simp [Value.ownBlock] at hk; omega)⟩
end
section
open Go Go.RowKit
variable [Tb]
noncomputable def aiq (l : List Ins) : Option ((List Ins × Unit) × Unit) := if l.length ≤ 1000000 then some ((l, ()), ()) else none
noncomputable abbrev anc : Con SR1 := ⟨63, [.sh (.ro 3)], [.sh (.row 3)], fun x => aiq x.1⟩
noncomputable def agJ (l : List Sub) : Option ((List Sub × Unit) × Unit) := if l.length ≤ 1000000 then some ((l, ()), ()) else none
noncomputable abbrev amm : Con SR1 := ⟨64, [.sh (.ro 4)], [.sh (.row 4)], fun x => agJ x.1⟩
theorem arl {f : FuncId} (hf : Nat.blt f afz = true) {c sz : Nat} {el : TypeId} (hp : ∀ x, arB (SR1.kt.vw c x) = true) (hsz : SR1.kt.sz c = sz) {spec : List (SR1.T c) → Option ((List (SR1.T c) × Unit) × Unit)} (hspec : ∀ l o, spec l = some o → o = ((l, ()), ()) ∧ l.length ≤ 1000000)
    (h : ∀ (A : Option Addr) (cap : Nat) (xs : List (SR1.T c)) (w : World), Sl (aea SR1.kt c) sz w w.heap.size A xs → xs.length ≤ 1000000 → Calls Tryz.prog f #[.slice A xs.length cap] w (anm (aea SR1.kt c) sz el w xs)) :
    CO Tryz.prog ⟨f, [.sh (.ro c)], [.sh (.row c)], fun x => spec x.1⟩ := fun x out hx B W hg vs F w hw => by
  obtain ⟨hb, hB, hs⟩ := hw
  obtain ⟨ho, hl⟩ := hspec x.1 out hx
  subst ho
  show aeD Tryz.prog f _ w _
  rw [ac9 hf]
  rcases vs with _ | ⟨v, _ | ⟨v2, vs⟩⟩
  · exact aaG hs
  · replace hs : Sat B w [pcS SR1.kt (.ro c x.1) v, F] := hs
    obtain ⟨A, cap, rfl, hsl⟩ := avA hs
    have s1 := hs.drop
    rw [hsz] at hsl
    refine (h A cap x.1 w hsl hl).mono fun e w' ⟨⟨A', c', he, hown⟩, hb'⟩ => ⟨[.slice A' (List.length x.1) c'], he, hb.trans (hb'.mono hB), Nat.le_trans hB hb'.size, ?_⟩
    have s2 := aiM s1 hb' hB hown
    rw [← hsz] at s2
    exact agV hp s2
  · replace hs : Sat B w (pcS SR1.kt (.ro c x.1) v :: ([fun _ => False] ++ [F])) := hs
    exact aaG hs.drop
theorem aqf : CO Tryz.prog anc := arl rfl (c := 3) (sz := 3) (fun _ => rfl) rfl (spec := aiq) (fun l o h => by
  unfold aiq at h
  split at h
  · rename_i hl; cases h; exact ⟨rfl, hl⟩
  · cases h) fun A cap xs w hx hn => ape A cap xs w hx hn
theorem apb : CO Tryz.prog amm := arl rfl (c := 4) (sz := 3) (fun _ => rfl) rfl (spec := agJ) (fun l o h => by
  unfold agJ at h
  split at h
  · rename_i hl; cases h; exact ⟨rfl, hl⟩
  · cases h) fun A cap xs w hx hn => an2 A cap xs w hx hn
noncomputable def agK (l : List (List Ins)) : Option ((List (List Ins) × Unit) × Unit) := if l.length ≤ 1000000 then some ((l, ()), ()) else none
noncomputable abbrev aha : Con SR1 := ⟨62, [.sh (.rr 3)], [.sh (.row 18)], fun x => agK x.1⟩
def aua (xss : List (List Ins)) (ps : List (Option Addr × Nat)) : List (Option Addr × Nat × Nat) := List.zipWith (fun xs a => (a.1, xs.length, a.2)) xss ps
theorem aoX {Φ : World → Prop} {L : List aah} : ∀ (xss : List (List Ins)) (ps : List (Option Addr × Nat)), xss.length = ps.length → (∀ u, Φ u → ∀ (i : Nat) xs a, xss[i]? = some xs → ps[i]? = some a → Sl (aea SR1.kt 3) 3 u u.heap.size a.1 xs ∧ xs.length ≤ a.2) →
    Ent (ad1 Φ :: L) (abJ SR1.kt (pcS SR1.kt) 18 xss ((aua xss ps).map ak4) ++ ad1 Φ :: L)
  | [], [], _, _ => Ent.refl
  | [], _ :: _, h, _ => by cases h
  | _ :: _, [], h, _ => by cases h
  | xs :: xss, a :: ps, hl, hΦ => by
    have ih := aoX (Φ := Φ) (L := L) xss ps (by simpa using hl) fun u hu i ys b h1 h2 => hΦ u hu (i + 1) ys b h1 h2
    refine ajI.trans (fun h hs => ?_)
    have h1 := aa7 (A := ad1 Φ) ih hs
    refine aaF (A' := pcS SR1.kt (.ro 3 xs) (.slice a.1 xs.length a.2)) (fun k hk => ?_) h1
    refine aaE.2 (show pcW SR1.kt (obS SR1.kt) (rwS SR1.kt) (.ro 3 xs) (.slice a.1 xs.length a.2) k from ⟨a.1, a.2, rfl, ?_⟩)
    exact ac3 (fun u hu => hΦ u hu 0 xs a rfl rfl) _ hk
theorem auw {B : Nat} {w : World} {A R F : aah} {N : List aah} (s : Sat B w (N ++ A :: [R, F])) : Sat B w ((R :: N) ++ [A, F]) := s.perm (aaw fun f g h1 h2 h3 => by simp only [List.cons_append, h1, h2, h3]; omega)
theorem an3 (xss : List (List Ins)) (hl : xss.length ≤ 1000000) (B : Nat) (W : World) (v : Value) (F : aah) (w : World) (hw : Cls B W [pcS SR1.kt (.rr 3 xss) v, F] w) :
    Calls Tryz.prog aha.f #[v] w fun e w' => ∃ u, e = .returned u ∧ Cls B W [pcS SR1.kt (.row 18 xss) u, F] w' := by
  obtain ⟨hb, hB, hs⟩ := hw
  have s1 : Sat B w ((fun h => ∃ A cap, v = .slice A xss.length cap ∧ rrS (aea SR1.kt 3) (SR1.kt.sz 3) A cap xss h) :: [F]) := aa1 (ajp (S := SR1) (f := .rr 3 xss) (fun _ h => h) fun _ _ h => h) hs
  obtain ⟨h, H, k1, k2, a, e, ⟨A, cap, rfl, ps0, h1⟩, h2⟩ := s1
  have s2 : Sat B w (ad1 _ :: [F]) := ⟨h, H, k1, k2, a, e, h1, h2⟩
  have h3 := ajH s2 List.mem_cons_self
  have hps : xss.length ≤ ps0.length := by
    rcases Nat.eq_zero_or_pos xss.length with h0 | h0
    · omega
    · obtain ⟨a, ha, _⟩ := h3.2 (xss.length - 1) _ (List.getElem?_eq_getElem (Nat.sub_lt h0 Nat.one_pos))
      have := (List.getElem?_eq_some_iff.1 ha).1
      omega
  obtain ⟨ps, hpe⟩ : ∃ ps, ps = ps0.take xss.length := ⟨_, rfl⟩
  have hpl : xss.length = ps.length := by rw [hpe, List.length_take]; omega
  have hpg : ∀ (i : Nat) b, ps[i]? = some b → ps0[i]? = some b := fun i b hb => by
    rw [hpe, List.getElem?_take] at hb
    split at hb
    · exact hb
    · cases hb
  have hrl : (aua xss ps).length = xss.length := by unfold aua; rw [List.length_zipWith]; omega
  have hsl : Sl ak4 1 w w.heap.size A (aua xss ps) := by
    refine ⟨by omega, fun hne => ?_⟩
    have hpos : 0 < xss.length := by rw [← hrl]; exact List.length_pos_iff.2 hne
    obtain ⟨a0, _, _, b, o, hA, hlt, _⟩ := h3.2 0 _ (List.getElem?_eq_getElem hpos)
    refine ⟨b, o, hA, hlt, fun i x hi j u hu => ?_⟩
    unfold aua at hi
    rw [List.getElem?_zipWith] at hi
    cases hx : xss[i]? with
    | none => rw [hx] at hi; simp at hi
    | some xs =>
      cases hy : ps[i]? with
      | none => rw [hx, hy] at hi; simp at hi
      | some a =>
        rw [hx, hy] at hi
        obtain rfl := Option.some.inj hi
        obtain ⟨a', ha', _, b', o', hA', _, hc⟩ := h3.2 i xs hx
        rw [hpg i a hy] at ha'
        obtain rfl := Option.some.inj ha'
        rw [hA] at hA'
        cases hA'
        cases j with
        | zero =>
          obtain rfl := Option.some.inj hu
          rw [Nat.mul_one, Nat.add_zero]; exact hc
        | succ j => simp [ak4] at hu
  have hcl := an4 A cap (aua xss ps) w hsl (by omega)
  rw [hrl] at hcl
  refine hcl.mono fun e w' ⟨⟨A', c', he, hown⟩, hb'⟩ => ⟨.slice A' xss.length c', by rw [he, hrl], hb.trans (hb'.mono hB), Nat.le_trans hB hb'.size, ?_⟩
  rw [hrl] at hown
  have s3 := aiM s2 hb' hB hown
  have s4 : Sat B w' (ad1 _ :: [ad9 A' xss.length c' 1 ((aua xss ps).flatMap ak4), F]) := s3.perm (List.Perm.swap ..)
  have s5 := s4.imp (aoX xss ps hpl fun u hu i xs a hx hy => by
    obtain ⟨a', ha', hq, _⟩ := hu.2 i xs hx
    rw [hpg i a hy] at ha'
    obtain rfl := Option.some.inj ha'
    exact hq)
  have s6 := auw s5
  have s7 := ago (A := pcS SR1.kt (.row 18 xss) (.slice A' xss.length c')) (fun k hk => aaE.2 (show pcW SR1.kt (obS SR1.kt) (rwS SR1.kt) (.row 18 xss) _ k from ⟨A', c', rfl, act.2 ⟨(aua xss ps).map ak4, by
    rw [show ((aua xss ps).map ak4).flatten = (aua xss ps).flatMap ak4 from by rw [List.flatMap_def]]
    exact hk⟩⟩)) s6
  exact (s7.perm (List.Perm.swap ..)).drop
theorem apc : CO Tryz.prog aha := fun x out hx B W hg vs F w hw => by
  obtain ⟨hb, hB, hs⟩ := hw
  replace hx : agK x.1 = some out := hx
  unfold agK at hx
  split at hx
  · rename_i hl
    cases hx
    show aeD Tryz.prog aha.f _ w _
    rw [ac9 rfl]
    rcases vs with _ | ⟨v, _ | ⟨v2, vs⟩⟩
    · exact aaG hs
    · exact (an3 x.1 hl B W v F w ⟨hb, hB, hs⟩).mono fun e w' ⟨u, he, h⟩ => ⟨[u], he, h⟩
    · replace hs : Sat B w (pcS SR1.kt (.rr 3 x.1) v :: ([fun _ => False] ++ [F])) := hs
      exact aaG hs.drop
  · cases hx
end
section
open Go.RowKit
set_option maxHeartbeats 400000 in
theorem aeC (a b c : Int) (w : World) :
    Calls Tryz.prog 96 #[.int .i64 a, .int .i64 b, .int .i64 c] w fun e w' => e = .returned (.bool (inB a b c)) ∧ w = w' := by
  unfold inB
  by_cases h : b ≤ a
  all_goals
    go_enter Tryz.func96, Tryz.ntmps96
    go_wp2
    go_ret
    all_goals (simp [*] <;> omega)
set_option maxHeartbeats 400000 in
theorem aew (a b c : Int) (w : World) :
    Calls Tryz.prog 36 #[.int .i64 a, .int .i64 b, .int .i64 c] w fun e w' => e = .returned (.bool (inB a b c)) ∧ w = w' := by
  unfold inB
  by_cases h : b ≤ a
  all_goals
    go_enter Tryz.func36, Tryz.ntmps36
    go_wp2
    go_ret
    all_goals (simp [*] <;> omega)
set_option maxHeartbeats 1000000 in
theorem af9 (c : Cfg) (l : CfgAt) (w : World) :
    Calls Tryz.prog 80 #[alm c l] w fun e w' => e = .returned (.bool (ahn c)) ∧ Below w.heap.size w w' := by
  unfold alm ahn
  by_cases hl : c.levels < 8
  all_goals
    go_enter Tryz.func80, Tryz.ntmps80
    go_wp2_with (first | (go_at_call 96; refine (aeC _ _ _ _).mono ?_; rintro e w' ⟨rfl, rfl⟩))
    all_goals go_ret
    all_goals simp [*]
    all_goals exact (Below.refl _ _).alloc (Nat.le_refl _) _
set_option maxHeartbeats 1000000 in
theorem akL (c : Cfg) (l : CfgAt) (x : Ins) (w : World) (h1 : 1 ≤ c.levels) (h2 : c.levels ≤ 64) (hp : c.progs.length ≤ 9223372036854775807) :
    Calls Tryz.prog 97 #[alm c l, .agg #[.int .i64 x.op, .int .i64 x.a, .int .i64 x.b]] w fun e w' => e = .returned (.bool (ahx c.levels c.progs.length x)) ∧ Below w.heap.size w w' := by
  unfold alm
  go_enter Tryz.func97, Tryz.ntmps97
  go_wp2_with (first | (go_at_call 96; refine (aeC _ _ _ _).mono ?_; rintro e w' ⟨rfl, rfl⟩))
  all_goals go_ret
  all_goals refine ⟨aqJ (by unfold ahx; simp_all), ?_⟩
  all_goals exact ((Below.refl _ _).alloc (Nat.le_refl _) _).alloc (by simp) _
set_option maxHeartbeats 1000000 in
theorem akF (c : Cfg) (l : CfgAt) (x : Ins) (w : World) (h1 : 1 ≤ c.levels) (h2 : c.levels ≤ 64) (hp : c.progs.length ≤ 9223372036854775807) :
    Calls Tryz.prog 37 #[alm c l, .agg #[.int .i64 x.op, .int .i64 x.a, .int .i64 x.b]] w fun e w' => e = .returned (.bool (ahx c.levels c.progs.length x)) ∧ Below w.heap.size w w' := by
  unfold alm
  go_enter Tryz.func37, Tryz.ntmps37
  go_wp2_with (first | (go_at_call 36; refine (aew _ _ _ _).mono ?_; rintro e w' ⟨rfl, rfl⟩))
  all_goals go_ret
  all_goals refine ⟨aqJ (by unfold ahx; simp_all), ?_⟩
  all_goals exact ((Below.refl _ _).alloc (Nat.le_refl _) _).alloc (by simp) _
set_option maxHeartbeats 1000000 in
theorem af3 (c : Cfg) (l : CfgAt) (w : World) :
    Calls Tryz.prog 35 #[alm c l] w fun e w' => e = .returned (.bool (ahn c)) ∧ Below w.heap.size w w' := by
  unfold alm ahn
  by_cases hl : c.levels < 8
  all_goals
    go_enter Tryz.func35, Tryz.ntmps35
    go_wp2_with (first | (go_at_call 36; refine (aew _ _ _ _).mono ?_; rintro e w' ⟨rfl, rfl⟩))
    all_goals go_ret
    all_goals simp [*]
    all_goals exact (Below.refl _ _).alloc (Nat.le_refl _) _
theorem afT {lv np : Int} {ps : List (List Ins)} {k : Nat} (hk : k < ps.length) (h : aaO lv np (ps.drop k) = aaO lv np ps) (hl : 32 < ps[k].length) : aaO lv np ps = 2 := by
  rw [← h, List.drop_eq_getElem_cons hk]; simp [aaO, hl]
theorem agy {lv np : Int} {ps : List (List Ins)} {k j : Nat} (hk : k < ps.length) (h : aaO lv np (ps.drop k) = aaO lv np ps) (hl : ps[k].length ≤ 32) (hj : j < ps[k].length) (hb : ahx lv np ps[k][j] = false) : aaO lv np ps = 1 := by
  rw [← h, List.drop_eq_getElem_cons hk]
  have : ps[k].all (ahx lv np) = false := by
    rw [List.all_eq_false]; exact ⟨_, List.getElem_mem hj, by simp [hb]⟩
  simp [aaO, Nat.not_lt.2 hl, this]
theorem afS {lv np : Int} {ps : List (List Ins)} {k : Nat} (hk : k < ps.length) (h : aaO lv np (ps.drop k) = aaO lv np ps) (hl : ps[k].length ≤ 32) (ha : (ps[k].take ps[k].length).all (ahx lv np) = true) : aaO lv np (ps.drop (k + 1)) = aaO lv np ps := by
  rw [← h, List.drop_eq_getElem_cons hk]
  rw [List.take_length] at ha
  simp [aaO, Nat.not_lt.2 hl, ha]
theorem aj0 {α : Type} {f : α → Bool} {l : List α} {j : Nat} (hj : j < l.length) (h : (l.take j).all f = true) (hf : f l[j] = true) : (l.take (j + 1)).all f = true := by
  rw [List.take_succ_eq_append_getElem hj, List.all_append, h]; simp [hf]
def aAS (lv np : Int) (ps : List (List Ins)) (k : Nat) : Prop := aaO lv np (ps.drop k) = aaO lv np ps
def azN (lv np : Int) (p : List Ins) (k : Nat) : Prop := (p.take k).all (ahx lv np) = true
@[reducible] def ah3 (c : Cfg) (l : CfgAt) : Obj := .cells #[.int .i64 c.workers, .int .i64 c.levels, .int .i64 c.classes, .int .i64 c.tasks, .int .i64 c.deque, .int .i64 c.heap, .int .i64 c.batch, .int .i64 c.age, .int .i64 c.patience, .slice l.pa c.progs.length l.pc, .slice l.sa c.subs.length l.sc] 31
set_option maxHeartbeats 2000000 in
theorem ah2 (c : Cfg) (l : CfgAt) (w : World) (h1 : 1 ≤ c.levels) (h2 : c.levels ≤ 64) (hc : ai0 w w.heap.size c l) :
    Calls Tryz.prog 81 #[alm c l] w fun e w' => e = .returned (.int .i64 (abR c)) ∧ Below w.heap.size w w' := by
  have hlen := hc.1.1
  by_cases hp : inB (c.progs.length : Int) 1 32 = true
  · have hfin : abR c = aaO c.levels c.progs.length c.progs := by simp [abR, hp]
    have Hfin := Lib.hid hfin
    clear hfin
    unfold alm
    go_enter Tryz.func81, Tryz.ntmps81
    go_wp2_with (first | (go_at_call 96; refine (aeC _ _ _ _).mono ?_; rintro e w' ⟨rfl, rfl⟩))
    go_loopw [15] (fun i wr => ∃ k : Nat, k ≤ c.progs.length ∧ i = .int .i64 k ∧ aAS c.levels c.progs.length c.progs k ∧ Below (w.heap.size + 1) (w.alloc (ah3 c l)) wr) (fun i _ => c.progs.length - (intOf i).toNat)
    case atStart => exact ⟨0, Nat.zero_le _, rfl, rfl, Below.refl _ _⟩
    case round =>
      obtain ⟨k, hk, rfl, hi, hb⟩ := hrel
      have hB : w.heap.size < wr.heap.size := by have := hb.size; simp at this; omega
      have hbw : Below w.heap.size w wr := ((Below.refl _ _).alloc (Nat.le_refl _) _).trans (hb.mono (by omega))
      by_cases hlt : k < c.progs.length
      · obtain ⟨b, o, hpa, hbb, Ai, ci, hcell, hsl⟩ := hc.1.at_ hlt
        have hln := hsl.len
        obtain ⟨hcs, hfz⟩ := ajY hb
        by_cases hlong : 32 < c.progs[k].length
        · have hres := Lib.hid (afT hlt hi hlong)
          obtain ⟨pa, pc, sa, sc⟩ := l
          obtain rfl : pa = some ⟨b, o, none⟩ := hpa
          go_wp2
          go_ret
          exact ⟨ab9 (by rw [Hfin.out, hres.out]), hbw⟩
        · obtain ⟨pa, pc, sa, sc⟩ := l
          obtain rfl : pa = some ⟨b, o, none⟩ := hpa
          go_wp2
          obtain ⟨wo, rfl⟩ : ∃ wo : World, wo = wr := ⟨_, rfl⟩
          clear hcs hfz
          go_loopw [24] (fun i ws => ∃ j : Nat, j ≤ c.progs[k].length ∧ i = .int .i64 j ∧ azN c.levels c.progs.length c.progs[k] j ∧ Below (w.heap.size + 1) (w.alloc (ah3 c ⟨some ⟨b, o, none⟩, pc, sa, sc⟩)) ws) (fun i _ => c.progs[k].length - (intOf i).toNat)
          case atStart => exact ⟨0, Nat.zero_le _, rfl, by simp [azN], hb⟩
          case round =>
            obtain ⟨j, hj, rfl, hq, hb2⟩ := hrel
            have hB2 : w.heap.size < wr.heap.size := by have := hb2.size; simp at this; omega
            have hbw2 : Below w.heap.size w wr := ((Below.refl _ _).alloc (Nat.le_refl _) _).trans (hb2.mono (by omega))
            by_cases hjt : j < c.progs[k].length
            · obtain ⟨b2, o2, hpa2, hbb2, hcc⟩ := hsl.at_ hjt
              obtain rfl : Ai = some ⟨b2, o2, none⟩ := hpa2
              obtain ⟨hcs, hfz⟩ := ajY hb2
              have c0 : w.cell? ⟨b2, o2 + j * 3, none⟩ = some (.int .i64 c.progs[k][j].op) := hcc j hjt 0 _ rfl
              have c1 : w.cell? ⟨b2, o2 + j * 3 + 1, none⟩ = some (.int .i64 c.progs[k][j].a) := hcc j hjt 1 _ rfl
              have c2 : w.cell? ⟨b2, o2 + j * 3 + 2, none⟩ = some (.int .i64 c.progs[k][j].b) := hcc j hjt 2 _ rfl
              by_cases hok : ahx c.levels c.progs.length c.progs[k][j] = true
              · go_wp2_with (first | (go_at_call 97; refine (akL c ⟨some ⟨b, o, none⟩, pc, sa, sc⟩ c.progs[k][j] _ h1 h2 hlen).mono ?_; rintro e w' ⟨rfl, hbv⟩))
                go_roundw
                case rel => exact ⟨j + 1, by omega, by go_num, aj0 hjt hq hok, (hb2.alloc (by omega) _).trans (hbv.mono (by simp; omega))⟩
                case measure => simp [intOf]; omega
              · have hok' : ahx c.levels c.progs.length c.progs[k][j] = false := by simpa using hok
                clear hok
                have hres := Lib.hid (agy hlt hi (by omega) hjt hok')
                go_wp2_with (first | (go_at_call 97; refine (akL c ⟨some ⟨b, o, none⟩, pc, sa, sc⟩ c.progs[k][j] _ h1 h2 hlen).mono ?_; rintro e w' ⟨rfl, hbv⟩))
                go_ret
                exact ⟨ab9 (by rw [Hfin.out, hres.out]), ((Below.refl _ _).alloc (Nat.le_refl _) _).trans (((hb2.alloc (by omega) _).trans (hbv.mono (by simp; omega))).mono (by omega))⟩
            · obtain ⟨hcs, hfz⟩ := ajY hb2
              go_wp2
              go_roundw
              case rel => exact ⟨k + 1, by omega, by go_num, afS hlt hi (by omega) (by
                have e : j = c.progs[k].length := by omega
                subst e; exact hq), hb2⟩
              case measure => simp [intOf]; omega
      · go_wp2
        go_ret
        exact ⟨ab9 (by
          have hi' : aaO c.levels c.progs.length (c.progs.drop k) = aaO c.levels c.progs.length c.progs := hi
          rw [Hfin.out, ← hi', List.drop_eq_nil_of_le (by omega)]; rfl), hbw⟩
  · have hfin : abR c = 2 := by simp [abR, hp]
    have Hfin := Lib.hid hfin
    clear hfin
    unfold alm
    go_enter Tryz.func81, Tryz.ntmps81
    go_wp2_with (first | (go_at_call 96; refine (aeC _ _ _ _).mono ?_; rintro e w' ⟨rfl, rfl⟩))
    go_ret
    exact ⟨ab9 Hfin.out.symm, (Below.refl _ _).alloc (Nat.le_refl _) _⟩
theorem ahi {lv np : Int} {ss : List Sub} {k : Nat} (hk : k < ss.length) (h : acs lv np (ss.drop k) = acs lv np ss) {e : Int} (he : amO lv np ss[k] = e) (hne : e ≠ 0) : acs lv np ss = e := by
  subst he
  rw [← h, List.drop_eq_getElem_cons hk]; simp [acs, hne]
theorem agl {lv np : Int} {ss : List Sub} {k : Nat} (hk : k < ss.length) (h : acs lv np (ss.drop k) = acs lv np ss) (he : amO lv np ss[k] = 0) : acs lv np (ss.drop (k + 1)) = acs lv np ss := by
  rw [← h, List.drop_eq_getElem_cons hk]; simp [acs, he]
def aAR (lv np : Int) (ss : List Sub) (k : Nat) : Prop := acs lv np (ss.drop k) = acs lv np ss
set_option maxHeartbeats 2000000 in
theorem aqi (c : Cfg) (l : CfgAt) (w : World) (h1 : 1 ≤ c.levels) (h2 : c.levels ≤ 64) (hc : ai0 w w.heap.size c l) :
    Calls Tryz.prog 82 #[alm c l] w fun e w' => e = .returned (.int .i64 (adH c)) ∧ Below w.heap.size w w' := by
  have hlen := hc.1.1
  have hlen2 := hc.2.1
  by_cases hp : 64 < c.subs.length
  · have hfin : adH c = 2 := by simp [adH, hp]
    have Hfin := Lib.hid hfin
    clear hfin
    unfold alm
    go_enter Tryz.func82, Tryz.ntmps82
    go_wp2
    go_ret
    exact ⟨ab9 Hfin.out.symm, (Below.refl _ _).alloc (Nat.le_refl _) _⟩
  · have hfin : adH c = acs c.levels c.progs.length c.subs := by simp [adH, hp]
    have Hfin := Lib.hid hfin
    clear hfin
    unfold alm
    go_enter Tryz.func82, Tryz.ntmps82
    go_wp2
    go_loopw [12] (fun i wr => ∃ k : Nat, k ≤ c.subs.length ∧ i = .int .i64 k ∧ aAR c.levels c.progs.length c.subs k ∧ Below (w.heap.size + 1) (w.alloc (ah3 c l)) wr) (fun i _ => c.subs.length - (intOf i).toNat)
    case atStart => exact ⟨0, Nat.zero_le _, rfl, rfl, Below.refl _ _⟩
    case round =>
      obtain ⟨k, hk, rfl, hi, hb⟩ := hrel
      have hB : w.heap.size < wr.heap.size := by have := hb.size; simp at this; omega
      have hbw : Below w.heap.size w wr := ((Below.refl _ _).alloc (Nat.le_refl _) _).trans (hb.mono (by omega))
      obtain ⟨hcs, hfz⟩ := ajY hb
      by_cases hlt : k < c.subs.length
      · obtain ⟨b, o, hpa, hbb, hcc⟩ := hc.2.at_ hlt
        obtain ⟨pa, pc, sa, sc⟩ := l
        obtain rfl : sa = some ⟨b, o, none⟩ := hpa
        have c0 : w.cell? ⟨b, o + k * 3, none⟩ = some (.int .i64 c.subs[k].prog) := hcc k hlt 0 _ rfl
        have c1 : w.cell? ⟨b, o + k * 3 + 1, none⟩ = some (.int .i64 c.subs[k].level) := hcc k hlt 1 _ rfl
        have c2 : w.cell? ⟨b, o + k * 3 + 2, none⟩ = some (.int .i64 c.subs[k].deadline) := hcc k hlt 2 _ rfl
        have hse : amO c.levels c.progs.length c.subs[k] = if !inB c.subs[k].prog 0 (c.progs.length - 1) then 3 else if !inB c.subs[k].level 0 (c.levels - 1) || !inB c.subs[k].deadline 0 16777215 then 1 else 0 := rfl
        have Hse := Lib.hid hse
        clear hse
        have bad := fun e he hne => Lib.hid (ahi (e := e) hlt hi he hne)
        by_cases g1 : inB c.subs[k].prog 0 (c.progs.length - 1) = true
        · by_cases g2 : inB c.subs[k].level 0 (c.levels - 1) = true
          · by_cases g3 : inB c.subs[k].deadline 0 16777215 = true
            · go_wp2_with (first | (go_at_call 96; refine (aeC _ _ _ _).mono ?_; rintro e w' ⟨rfl, rfl⟩))
              go_roundw
              case rel => exact ⟨k + 1, by omega, by go_num, agl hlt hi (by rw [Hse.out]; simp [g1, g2, g3]), hb.alloc (by omega) _⟩
              case measure => simp [intOf]; omega
            · go_wp2_with (first | (go_at_call 96; refine (aeC _ _ _ _).mono ?_; rintro e w' ⟨rfl, rfl⟩))
              go_ret
              exact ⟨ab9 (by rw [Hfin.out, (bad 1 (by rw [Hse.out]; simp [g1, g2, g3]) (by omega)).out]), hbw.alloc (by omega) _⟩
          · go_wp2_with (first | (go_at_call 96; refine (aeC _ _ _ _).mono ?_; rintro e w' ⟨rfl, rfl⟩))
            go_ret
            exact ⟨ab9 (by rw [Hfin.out, (bad 1 (by rw [Hse.out]; simp [g1, g2]) (by omega)).out]), hbw.alloc (by omega) _⟩
        · go_wp2_with (first | (go_at_call 96; refine (aeC _ _ _ _).mono ?_; rintro e w' ⟨rfl, rfl⟩))
          go_ret
          exact ⟨ab9 (by rw [Hfin.out, (bad 3 (by rw [Hse.out]; simp [g1]) (by omega)).out]), hbw.alloc (by omega) _⟩
      · go_wp2
        go_ret
        exact ⟨ab9 (by
          have hi' : acs c.levels c.progs.length (c.subs.drop k) = acs c.levels c.progs.length c.subs := hi
          rw [Hfin.out, ← hi', List.drop_eq_nil_of_le (by omega)]; rfl), hbw⟩
set_option maxHeartbeats 2000000 in
theorem apg (c : Cfg) (l : CfgAt) (w : World) (hc : ai0 w w.heap.size c l) :
    Calls Tryz.prog 59 #[alm c l] w fun e w' => e = .returned (.int .i64 (ab5 c)) ∧ Below w.heap.size w w' := by
  by_cases hn : ahn c = true
  · obtain ⟨_, _, h1, h2, _⟩ := afy hn
    by_cases hp : abR c = 0
    · have hfin : ab5 c = adH c := by simp [ab5, hn, hp]
      have Hfin := Lib.hid hfin
      clear hfin
      unfold alm
      go_enter Tryz.func59, Tryz.ntmps59
      go_wp2_with fail
      refine (af9 c l _).mono ?_; rintro e w1 ⟨rfl, hb1⟩
      obtain ⟨hc1, hf1⟩ := ajY hb1
      have hw1 := ae4 hb1
      go_wp2_with fail
      refine (ah2 c l _ h1 h2 (hc.up hw1)).mono ?_; rintro e w2 ⟨rfl, hb2⟩
      have hw2 := agL hw1 hb2
      obtain ⟨hc2, hf2⟩ := ajY (agL hb1 hb2)
      clear hc1 hf1
      go_wp2_with fail
      refine (aqi c l _ h1 h2 (hc.up hw2)).mono ?_; rintro e w3 ⟨rfl, hb3⟩
      go_wp2_with fail
      go_ret
      exact ⟨ab9 Hfin.out.symm, agL hw2 hb3⟩
    · have hfin : ab5 c = abR c := by simp [ab5, hn, hp]
      have Hfin := Lib.hid hfin
      have hp' : (abR c == 0) = false := by simpa using hp
      clear hfin hp
      unfold alm
      go_enter Tryz.func59, Tryz.ntmps59
      go_wp2_with fail
      refine (af9 c l _).mono ?_; rintro e w1 ⟨rfl, hb1⟩
      obtain ⟨hc1, hf1⟩ := ajY hb1
      have hw1 := ae4 hb1
      go_wp2_with fail
      refine (ah2 c l _ h1 h2 (hc.up hw1)).mono ?_; rintro e w2 ⟨rfl, hb2⟩
      have hw2 := agL hw1 hb2
      obtain ⟨hc2, hf2⟩ := ajY (agL hb1 hb2)
      clear hc1 hf1
      go_wp2_with fail
      go_ret
      exact ⟨ab9 Hfin.out.symm, hw2⟩
  · have hfin : ab5 c = 1 := by simp [ab5, hn]
    have Hfin := Lib.hid hfin
    clear hfin
    unfold alm
    go_enter Tryz.func59, Tryz.ntmps59
    go_wp2_with fail
    refine (af9 c l _).mono ?_; rintro e w1 ⟨rfl, hb1⟩
    have hw1 := ae4 hb1
    go_wp2_with fail
    go_ret
    exact ⟨ab9 Hfin.out.symm, hw1⟩
end
section
open Go Go.RowKit
variable [Tb]
theorem atB {f : FuncId} (hf : Nat.blt f afz = true) {r : Cfg → Int} (h : ∀ (c : Cfg) (l : CfgAt) (w : World), ai0 w w.heap.size c l → Calls Tryz.prog f #[alm c l] w fun e w' => e = .returned (.int .i64 (r c)) ∧ Below w.heap.size w w') :
    CO Tryz.prog (⟨f, [.val 13], [.sh sI_], fun x => some ((r x.1, ()), ())⟩ : Con SR1) := fun x out hx B W hg vs F w hc => by
  obtain ⟨hb, hB, hs⟩ := hc
  replace hx : (some ((r x.1, ()), ()) : Option ((Int × Unit) × Unit)) = some out := hx
  obtain rfl := Option.some.inj hx
  show aeD Tryz.prog f _ w _
  rw [ac9 hf]
  rcases vs with _ | ⟨v1, _ | ⟨v2, vs⟩⟩
  · exact aaG hs
  · replace hs : Sat B w (auh SR1 13 x.1 v1 :: [F]) := hs
    obtain ⟨p, rfl, hp, s1⟩ := awG hs
    exact (h x.1 p w hp).mono fun e w' ⟨he, hb'⟩ => ⟨[.int .i64 (r x.1)], he, hb.trans (hb'.mono hB), Nat.le_trans hB hb'.size, avB (S := SR1) (s1.below hb')⟩
  · replace hs : Sat B w (auh SR1 13 x.1 v1 :: ([fun _ => False] ++ [F])) := hs
    exact aaG hs.drop
def an7 (c : Cfg) : Option ((Int × Unit) × Unit) := some ((ab5 c, ()), ())
noncomputable abbrev anf : Con SR1 := ⟨59, [.val 13], [.sh sI_], fun x => an7 x.1⟩
theorem aqj : CO Tryz.prog anf := atB (by kernel_rfl) apg
end
section
open Go
def abi {α : Type} (o : Option α) (P : α → Prop) : Prop := ∃ x, o = some x ∧ P x
section
variable {α β : Type} {o : Option α} {P Q : α → Prop} {x : α}
theorem abi.some_ (h : P x) : abi (some x) P := ⟨x, rfl, h⟩
theorem abi.bind {f : α → Option β} {Q : β → Prop} (h : abi o P) (k : ∀ x, P x → abi (f x) Q) : abi (o.bind f) Q := by
  obtain ⟨x, rfl, hx⟩ := h
  exact k x hx
theorem abi.ite {c : Prop} [Decidable c] {a b : Option α} (h1 : c → abi a P) (h2 : ¬ c → abi b P) : abi (if c then a else b) P := by
  by_cases h : c
  · rw [if_pos h]; exact h1 h
  · rw [if_neg h]; exact h2 h
theorem abi.guard {c : Prop} [Decidable c] {a b : Option α} (h : c) (k : c → abi a P) : abi (if c then a else b) P := by rw [if_pos h]; exact k h
theorem abi.mono (h : abi o P) (k : ∀ x, P x → Q x) : abi o Q := by
  obtain ⟨x, e, hx⟩ := h
  exact ⟨x, e, k x hx⟩
end
def Rg (x : Int) : Prop := -9223372036854775808 ≤ x ∧ x ≤ 9223372036854775807
theorem acp {x : Int} (h : Rg x) : wi x = x := w64 h.1 h.2
theorem abc {x : Int} (h : -1000000000000 ≤ x ∧ x ≤ 1000000000000) : Rg x := by unfold Rg; omega
theorem aj3 {a b : Int} (h1 : 1 ≤ b) (h2 : 0 ≤ a) : 0 ≤ Int.tmod a b ∧ Int.tmod a b < b := ⟨Int.tmod_nonneg b h2, Int.tmod_lt_of_pos a (by omega)⟩
theorem af6 {σ β : Type} {F : (σ → Option β) → σ → Option β} (I : σ → Prop) (μ : σ → Nat) {P : β → Prop} (step : ∀ self x, I x → (∀ y, I y → μ y < μ x → abi (self y) P) → abi (F self x) P) : ∀ k x, I x → μ x < k → abi (lpF F k x) P
  | 0, x, _, h => by omega
  | k + 1, x, hx, h => step (lpF F k) x hx fun y hy hlt => af6 I μ step k y hy (by omega)
theorem avo {α : Type} {d : α} {xs : List α} {i : Int} (h : 0 ≤ i ∧ i < (xs.length : Int)) : atL d xs i ∈ xs := List.mem_of_getElem? (aej h)
theorem aei {α β : Type} {G : Prop} [d : Decidable G] (A : Option α) (f : α → Option β) : (A.bind fun r => if G then f r else none) = if G then A.bind f else none := by
  by_cases h : G
  · simp only [if_pos h]
  · simp only [if_neg h]; cases A <;> rfl
end
section
open Go.RowKit Go.Maps
set_option maxRecDepth 100000
end
section
open Go Go.RowKit
variable [Tb]
set_option maxRecDepth 100000
end
section
open Go Go.RowKit Go.Maps
set_option maxRecDepth 100000
def tzI (x : Int) : Int := IntKind.u64.wrap (bits BinOp.and IntKind.u64 x (IntKind.u64.wrap (-x)) * 285870213051353865) / 288230376151711744
theorem aye (a : Int) : 0 ≤ IntKind.u64.wrap a ∧ IntKind.u64.wrap a ≤ 18446744073709551615 := by
  simp only [IntKind.wrap, IntKind.bits, IntKind.signed]
  simp
  omega
theorem arZ (x : Int) : 0 ≤ tzI x ∧ tzI x < 64 := by
  unfold tzI
  have h := aye (bits BinOp.and IntKind.u64 x (IntKind.u64.wrap (-x)) * 285870213051353865)
  omega
theorem av5 (w : World) : Calls Tryz.prog 225 #[.int .u64 0] w fun e w' => e = .returned (.int .i64 64) ∧ w' = w := by
  go_enter Tryz.func225, Tryz.ntmps225
  go_wp2
  go_ret
  exact ⟨rfl, rfl⟩
theorem aui (w : World) (x : Int) (h : ¬ x = 0) (b : Int) (hI : 0 ≤ IntKind.u64.wrap (bits BinOp.and IntKind.u64 x (IntKind.u64.wrap (-x)) * 285870213051353865) / 288230376151711744 ∧ IntKind.u64.wrap (bits BinOp.and IntKind.u64 x (IntKind.u64.wrap (-x)) * 285870213051353865) / 288230376151711744 < 64) (hb : w.cell? ⟨0, (IntKind.u64.wrap (bits BinOp.and IntKind.u64 x (IntKind.u64.wrap (-x)) * 285870213051353865) / 288230376151711744).toNat, none⟩ = some (.int .u8 b)) : Calls Tryz.prog 225 #[.int .u64 x] w fun e w' => e = .returned (.int .i64 (wrap64 b)) ∧ w' = w := by
  go_enter Tryz.func225, Tryz.ntmps225
  go_wp2
  go_ret
  exact ⟨rfl, rfl⟩
variable [T : Tb]
def tzV (x : Int) : Int := if x = 0 then 64 else wrap64 (T.tb (tzI x).toNat)
def pTz (x : Int) : Option ((Int × Unit) × Unit) := some ((tzV x, ()), ())
noncomputable abbrev awZ : Con SR1 := ⟨225, [.sh sU_], [.sh sI_], fun x => pTz x.1⟩
theorem ayy : CO Tryz.prog awZ := fun x out hx B W hg vs F w hw => by
  obtain ⟨hb, hB, hs⟩ := hw
  obtain ⟨(x : Int), u⟩ := x
  cases hx
  show aeD Tryz.prog awZ.f _ w _
  rw [ac9 rfl]
  rcases vs with _ | ⟨v, _ | ⟨v2, vs⟩⟩
  · exact aaG hs
  · have hs0 : Sat B w (pcS SR1.kt (.i .u64 x) v :: [F]) := hs
    have hv : v = .int .u64 x := by
      obtain ⟨_, _, _, _, _, _, h1, _⟩ := hs0
      exact (aaE.1 h1 : v = .int .u64 x)
    subst hv
    have hc : Calls Tryz.prog 225 #[.int .u64 x] w fun e w' => e = .returned (.int .i64 (tzV x)) ∧ w' = w := by
      by_cases h : x = 0
      · subst h
        exact av5 w
      · refine (aui w x h (T.tb (tzI x).toNat) (arZ x) ?_).mono fun e w' ⟨he, hw⟩ => ⟨by rw [he]; unfold tzV; rw [if_neg h], hw⟩
        exact ((ajY hb).1 0 _ hg.1).trans (hg.2 _ ((Int.toNat_lt (arZ x).1).2 (arZ x).2))
    refine hc.mono fun e w' ⟨he, hw'⟩ => ⟨[.int .i64 (tzV x)], he, ?_⟩
    subst hw'
    exact ⟨hb, hB, abu (p := pcS SR1.kt (.i .i64 (tzV x)) (.int .i64 (tzV x))) hs0.drop fun h => aaE.2 rfl⟩
  · replace hs : Sat B w (pcS SR1.kt (.i .u64 x) v :: ([fun _ => False] ++ [F])) := hs
    exact aaG hs.drop
end
section
open Go.RowKit Go.Maps
theorem atD : (Tryz.prog.info? 3).map (fun i => (i.zero, i.size, i.bytes)) = some (some (.int .i64 0), 1, 8) := by kernel_rfl
set_option maxHeartbeats 2000000 in
theorem apd (A : Option Addr) (cap : Nat) (xs : List Int) (w : World) (hx : Sl amh 1 w w.heap.size A xs) (hn : xs.length ≤ 1000000) :
    Calls Tryz.prog 38 #[.slice A xs.length cap] w (anm amh 1 3 w xs) := by
  cases A with
  | none =>
    have hnil : xs = [] := by
      rcases xs with _ | ⟨x, xs⟩
      · rfl
      · obtain ⟨b, o, e, _⟩ := hx.2 (by simp)
        cases e
    subst hnil
    have q : ∀ (w : World) (a : Option Addr) (n c n' c' : Nat), (binOp .eql 23 (.slice a n c) (.slice none n' c')).run Tryz.prog w = .ok (.bool a.isNone) w := fun w a n c n' c' => Lib.run_eql_slice_nil w _ _ a n c n' c' Tryz.underlying23
    go_enter Tryz.func38, Tryz.ntmps38
    go_wp2
    go_ret
    exact ⟨⟨none, 0, rfl, World.ownsRow_nil _ _ _ _⟩, Below.refl _ _⟩
  | some a =>
    obtain ⟨i0, hi, hz0, hz1, hz2⟩ := info_parts atD
    have q : ∀ (w : World) (a : Option Addr) (n c n' c' : Nat), (binOp .eql 23 (.slice a n c) (.slice none n' c')).run Tryz.prog w = .ok (.bool a.isNone) w := fun w a n c n' c' => Lib.run_eql_slice_nil w _ _ a n c n' c' Tryz.underlying23
    have hcell := Lib.hid (ant (sz := 1) (w := w) (B := w.heap.size) (fun _ => rfl) (by decide) hx (Obj.cells #[] 3))
    clear hx
    go_enter Tryz.func38, Tryz.ntmps38
    go_wp2_with (at_builtin; refine wpList_append_own_at _ rfl _ _ 23 rfl w.heap.size 3 i0 (.int .i64 0) 1 8 Tryz.underlying23 hi hz0 hz1 hz2 rfl (by decide) _ _ _ rfl (World.ownsRow_made w #[] 0 (Nat.le_refl _) (Nat.zero_le _) rfl) a xs.length cap (xs.flatMap amh) rfl ?qc0 ?qc1 ?qc2 ?qc3 ?qc4 ?qc5 ?_)
    case qc0 => exact agE (enc := amh) (sz := 1) (fun _ => rfl) xs
    case qc1 => exact hcell.out
    case qc2 => intro u hu; rw [List.mem_flatMap] at hu; obtain ⟨x, _, hu⟩ := hu; simp [amh] at hu; subst hu; rfl
    case qc3 => unfold maxLen; omega
    case qc4 => omega
    case qc5 => simp
    intro v' w1 hown hgrow _ _
    obtain ⟨A', c', hv⟩ := ajm hown
    subst hv
    clear hcell
    go_wp2
    go_ret
    exact ⟨⟨A', c', by simp, by simpa using hown⟩, ((Below.refl _ w).alloc (Nat.le_refl _) _).grown hgrow (by simp) (by intro k hk; simp [Value.ownBlock] at hk; omega)⟩
end
section
open Go Go.RowKit
variable [Tb]
end
end Go.Proofs.YtlcelajkhklkbaaGreat
