/- From the readings of the arguments to our words: bytes, ints. The table that words.Low looks at lies in block 0 of every world that fits: 64 bytes, whatever they are. What is needed of a configuration's types. Walks: slices.Clone at the slices of a configuration. slices.Clone at the slices of a configuration, in the evaluator's words. Walks: the checks of a configuration (config and its reference), function by function. Walks: the checks of a configuration's programs and submissions (config). The check of a configuration, in the evaluator's words. What it means that an answer is there; numbers; loops. Walks: park.Asleep. park.Asleep in the evaluator's form. bits.TrailingZeros64 over any table. Walks: slices.Clone at the rows of an environment. slices.Clone at the rows of an environment, in the evaluator's words. -/
import Derived.Test.YteapeojalliebaaGreatHqai
import Derived.HandedShaped
import Derived.Test.YteapeojalliebaaGreatRows
import Derived.Test.YteapeojalliebaaGreatHqaa
import Derived.Laws.AppendOwn
import Derived.Lib.SliceRun
import Derived.WalkKit
set_option linter.all false
namespace Go.Proofs.YteapeojalliebaaGreat
section
open Go.ChangeShapes Go.WideShapes Go.RowKit Go.Deep
set_option maxRecDepth 100000
theorem aBe : Tryz.prog.cellsOf 3 = 1 := by kernel_rfl
theorem ayX : Tryz.prog.cellsOf 5 = 1 := by kernel_rfl
theorem aEg {z : Int} (h : (Lit.int .i64 z).wf = true) : -9223372036854775808 ≤ z ∧ z ≤ 9223372036854775807 := by
  simp [Lit.wf, IntKind.min, IntKind.max, IntKind.bits, IntKind.signed] at h
  omega
section
variable {H : Type} {enc : TypeId × Value → H} {w : World} {base : Nat} {spare : Nat → Bool} {held : Bool}
theorem aAD (n : Nat) (cs : List Value) (d : DataW H × List MemPlace) (h : DataW.trod enc Tryz.prog w base spare held n 3 cs = some d) (_ : cs.length = 1) : ∃ y : Int, (-9223372036854775808 ≤ y ∧ y ≤ 9223372036854775807) ∧ cs = aeR SR1.kt 1 y := by
  obtain ⟨z, hz, _, hw⟩ := DataW.trod_int Tryz.underlying3 h
  exact ⟨z, aEg hw, hz⟩
theorem ay1 (n : Nat) (cs : List Value) (d : DataW H × List MemPlace) (h : DataW.trod enc Tryz.prog w base spare held n 5 cs = some d) (_ : cs.length = 1) : ∃ y : Int, (0 ≤ y ∧ y ≤ 255) ∧ cs = aeR SR1.kt 17 y := by
  obtain ⟨z, hz, _, hw⟩ := DataW.trod_int Tryz.underlying5 h
  simp [Lit.wf, IntKind.min, IntKind.max, IntKind.bits, IntKind.signed] at hw
  exact ⟨z, by omega, hz⟩
theorem asy {t e : TypeId} {r : Reach} {b0 : Nat} {v : Value} {A : Option Addr} {n cap : Nat} (ht : Tryz.prog.underlying t = some (.slice e)) (hv : Value.okWide Tryz.prog w r b0 t v) (h1 : v.cells.toList = [.slice A n cap]) : v = .slice A n cap := by
  obtain ⟨a, len, c, rfl⟩ := okWide_slice ht hv
  simp [Value.cells] at h1
  rw [h1.1, h1.2.1, h1.2.2]
theorem aEF {c : Nat} {l : List (SR1.T c)} {v : Value} {A : Option Addr} {cap : Nat} {L : List aad} (hz : 0 < SR1.kt.sz c) (henc : ∀ x, (aeR SR1.kt c x).length = SR1.kt.sz c) (hv : v = .slice A l.length cap) (hS : Sl (aeR SR1.kt c) (SR1.kt.sz c) w w.heap.size A l) (hc : l.length ≤ cap) (s : Sat w.heap.size w L) : Sat w.heap.size w (pcS SR1.kt (.ro c l) v :: L) :=
  abe (fun h hr => ⟨0, A, cap, hv, hr⟩) (aEu hz henc hS hc s)
theorem av7 {v : Value} {d : DataW H} {p : List MemPlace} {r : Reach} {b0 : Nat} (hv : Value.okWide Tryz.prog w r b0 22 v) (h : DataW.Trod enc Tryz.prog w base spare held 22 v d p) : ∃ l : List Int, (∀ x ∈ l, 0 ≤ x ∧ x ≤ 255) ∧ ∀ {L}, Sat w.heap.size w L → Sat w.heap.size w (pcS SR1.kt (.ro 17 l) v :: L) := by
  obtain ⟨fuel, hf⟩ := h
  obtain ⟨A, cap, xs, h1, h2, h3, h4⟩ := axj Tryz.underlying22 ayX (by decide) ay1 hf
  exact ⟨xs, h3, fun s => aEF (c := 17) (by decide) (fun _ => rfl) (asy Tryz.underlying22 hv h1) h2 h4 s⟩
theorem aDi {v : Value} {d : DataW H} {p : List MemPlace} {r : Reach} {b0 : Nat} (hv : Value.okWide Tryz.prog w r b0 23 v) (h : DataW.Trod enc Tryz.prog w base spare held 23 v d p) : ∃ l : List Int, (∀ x ∈ l, -9223372036854775808 ≤ x ∧ x ≤ 9223372036854775807) ∧ ∀ {L}, Sat w.heap.size w L → Sat w.heap.size w (pcS SR1.kt (.ro 1 l) v :: L) := by
  obtain ⟨fuel, hf⟩ := h
  obtain ⟨A, cap, xs, h1, h2, h3, h4⟩ := axj Tryz.underlying23 aBe (by decide) aAD hf
  exact ⟨xs, h3, fun s => aEF (c := 1) (by decide) (fun _ => rfl) (asy Tryz.underlying23 hv h1) h2 h4 s⟩
end
theorem al2 [Tb] {f : FuncId} {ps : List Pk} {spec : ak7 SR1 ps → Option (ak9 SR1 [.sh .b] × ajP SR1 ps)} {P : Program} (hf : Nat.blt f agl = true) (h : azn SR1 P f ps [.sh .b] spec) {x : ak7 SR1 ps} {o : ajP SR1 ps} (hx : spec x = some ((true, ()), o)) {vs : List Value} {w : World} (hg : aEa w.heap.size w) (s : Sat w.heap.size w (apW SR1 ps x vs ++ [fun _ => True])) :
    Calls P f vs.toArray w fun e w' => e = .returned (.bool true) ∧ Below w.heap.size w w' := by
  have h0 := h x _ hx w.heap.size w hg vs (fun _ => True) w ⟨Below.refl _ _, Nat.le_refl _, s⟩
  rw [adQ hf] at h0
  refine h0.mono fun e w' ⟨us, he, hb, _, s'⟩ => ?_
  rcases us with _ | ⟨u, _ | ⟨u2, us⟩⟩
  · exact aaM s'
  · have s2 : Sat w.heap.size w' (anO (u = .bool true) :: _) := abe (alF (f := .b true) (fun _ h => h) fun _ _ h => h) s'
    obtain ⟨_, _, _, _, _, _, h1, _⟩ := s2
    subst h1
    exact ⟨he, hb⟩
  · exact aaM s'.drop
end
section
open Go
set_option maxRecDepth 100000
def ayl (P : Program) : Bool := match ((begin P (fun _ _ => 0) default).world.heap[0]?).bind Obj.row? with
  | none => false
  | some (z, t) => Nat.beq z.size 64 && P.buildable t && (match P.cellTypes P.depth t with
    | none => false
    | some ts => ts.all fun u => match P.underlying u with
      | some (.int .u8) => true
      | _ => false)
theorem ayk : ayl Tryz.prog = true := by kernel_rfl
theorem aDm {P : Program} {w : World} (ht : ayl P = true) (hp : 0 < P.globals.size) (h : w.ShapedOpen P) : ∃ T : Tb, aEa w.heap.size w := by
  unfold ayl at ht
  split at ht
  · cases ht
  rename_i z t h0
  split at ht
  · simp at ht
  rename_i ts hts
  simp only [Bool.and_eq_true, List.all_eq_true] at ht
  obtain ⟨⟨hz, hb⟩, ha⟩ := ht
  have hz : z.size = 64 := Nat.eq_of_beq_eq_true hz
  obtain ⟨cs, hh, hs, hr⟩ := h.1 0 z t hp h0
  obtain ⟨ts', hts', _, hall⟩ := hr hb
  rw [hts] at hts'
  cases hts'
  have hc : ∀ i : Nat, i < 64 → ∃ n : Int, (0 ≤ n ∧ n ≤ 255) ∧ w.cell? ⟨0, i, none⟩ = some (.int .u8 n) := fun i hi => by
    have h1 : i < cs.size := by omega
    obtain ⟨u, hu, hok⟩ := hall i cs[i] (by simp [h1])
    have hm := ha u (List.mem_of_getElem? hu)
    have hcell : w.cell? ⟨0, i, none⟩ = some cs[i] := by simp [World.cell?, hh, h1]
    rw [hcell]
    unfold Cell.ok at hok
    split at hm
    · rename_i hu8
      rw [hu8] at hok
      cases hv : cs[i] <;> rw [hv] at hok <;> simp at hok
      case int k' n =>
        obtain ⟨rfl, hn⟩ := hok
        have hn : IntKind.u8.min ≤ n ∧ n ≤ IntKind.u8.max := hn
        simp [IntKind.min, IntKind.max, IntKind.bits, IntKind.signed] at hn
        exact ⟨n, by omega, rfl⟩
    · cases hm
  have hpos : 0 < w.heap.size := by
    rcases Nat.eq_zero_or_pos w.heap.size with e | e
    · rw [Array.getElem?_eq_none (by omega)] at hh; cases hh
    · exact e
  classical
  refine ⟨⟨fun i => if hi : i < 64 then (hc i hi).choose else 0, fun i => ?_⟩, hpos, fun i hi => ?_⟩
  · split
    · rename_i hi; exact (hc i hi).choose_spec.1
    · omega
  · show w.cell? _ = some (.int .u8 (if hi : i < 64 then (hc i hi).choose else 0))
    rw [dif_pos hi]
    exact (hc i hi).choose_spec.2
end
section
open Go.RowKit
def an2 (x : Option Addr × Nat × Nat) : List Value := [.slice x.1 x.2.1 x.2.2]
theorem aly {w : World} {base : Nat} {e : TypeId} {size : Nat} {v : Value} {n : Nat} {xs : List Value} (h : w.ownsRow base e size v n xs) : ∃ A cap, v = .slice A n cap := by
  rcases h.2 with ⟨rfl, rfl⟩ | ⟨g, cap, cur, rfl, _⟩
  · exact ⟨_, _, rfl⟩
  · exact ⟨_, _, rfl⟩
theorem aDj : (Tryz.prog.info? 121).map (fun i => (i.zero, i.size, i.bytes)) = some (some (.agg #[.int .i64 0, .int .i64 0, .int .i64 0]), 3, 24) := by kernel_rfl
theorem aB2 : (Tryz.prog.info? 123).map (fun i => (i.zero, i.size, i.bytes)) = some (some (.agg #[.int .i64 0, .int .i64 0, .int .i64 0]), 3, 24) := by kernel_rfl
theorem aCA : (Tryz.prog.info? 119).map (fun i => (i.zero, i.size, i.bytes)) = some (some (.slice none 0 0), 1, 24) := by kernel_rfl
theorem atk {α : Type} {enc : α → List Value} {sz : Nat} (henc : ∀ x, (enc x).length = sz) : ∀ (xs : List α) (i : Nat) (x : α), xs[i]? = some x → ∀ (j : Nat) u, (enc x)[j]? = some u → (xs.flatMap enc)[i * sz + j]? = some u
  | [], _, _, h, _, _, _ => by simp at h
  | y :: ys, 0, x, h, j, u, hu => by
    simp at h; subst h
    have hj : j < (enc y).length := by
      rcases Nat.lt_or_ge j (enc y).length with h | h
      · exact h
      · rw [List.getElem?_eq_none h] at hu; cases hu
    rw [List.flatMap_cons, Nat.zero_mul, Nat.zero_add, List.getElem?_append_left hj]; exact hu
  | y :: ys, i + 1, x, h, j, u, hu => by
    simp at h
    rw [List.flatMap_cons, List.getElem?_append_right (by rw [henc, Nat.succ_mul]; omega), henc, show (i + 1) * sz + j - sz = i * sz + j from by rw [Nat.succ_mul]; omega]
    exact atk henc ys i x h j u hu
end
section
open Go.RowKit Go.Maps
def aqL {α : Type} (enc : α → List Value) (sz : Nat) (el : TypeId) (w : World) (xs : List α) (e : Ending) (w' : World) : Prop :=
  (∃ A' c', e = .returned (.slice A' xs.length c') ∧ w'.ownsRow w.heap.size el sz (.slice A' xs.length c') xs.length (xs.flatMap enc)) ∧ Below w.heap.size w w'
theorem ahJ {α : Type} {enc : α → List Value} {sz : Nat} (henc : ∀ x, (enc x).length = sz) : ∀ xs : List α, (xs.flatMap enc).length = xs.length * sz
  | [] => by simp
  | x :: xs => by rw [List.flatMap_cons, List.length_append, ahJ henc xs, henc, List.length_cons, Nat.succ_mul, Nat.add_comm]
theorem aqU {α : Type} {enc : α → List Value} {sz : Nat} (henc : ∀ x, (enc x).length = sz) (hsz : 0 < sz) {w : World} {B : Nat} {a : Addr} {xs : List α} (hx : Sl enc sz w B (some a) xs) (ob : Obj) :
    ∀ j u, (xs.flatMap enc)[j]? = some u → (w.alloc ob).cell? (a.add j) = some u := by
  intro j u hj
  have hjl : j < (xs.flatMap enc).length := (List.getElem?_eq_some_iff.1 hj).1
  have hne : xs ≠ [] := by intro e; subst e; simp at hjl
  obtain ⟨b, o, e, hb, hc⟩ := hx.2 hne
  injection e with e
  subst e
  have hA : (⟨b, o, none⟩ : Addr).add j = ⟨b, o + j, none⟩ := by unfold Addr.add; split <;> simp_all
  rw [hA]
  refine Lib.cell?_alloc_some _ ?_
  rw [ahJ henc] at hjl
  have hi : j / sz < xs.length := (Nat.div_lt_iff_lt_mul hsz).2 hjl
  have hm : j % sz < (enc xs[j / sz]).length := by rw [henc]; exact Nat.mod_lt _ hsz
  have hg := atk (enc := enc) (sz := sz) henc xs (j / sz) xs[j / sz] (List.getElem?_eq_getElem hi) (j % sz) _ (List.getElem?_eq_getElem hm)
  have hjj : j / sz * sz + j % sz = j := by rw [Nat.mul_comm]; exact Nat.div_add_mod _ _
  rw [hjj, hj] at hg
  injection hg with hg
  have hc' := hc (j / sz) _ (List.getElem?_eq_getElem hi) (j % sz) _ (List.getElem?_eq_getElem hm)
  rw [hg]
  rw [Nat.add_assoc, hjj] at hc'
  exact hc'
set_option maxHeartbeats 2000000 in
theorem atw (A : Option Addr) (cap : Nat) (xs : List Ins) (w : World) (hx : Sl Ins.enc 3 w w.heap.size A xs) (hn : xs.length ≤ 1000000) :
    Calls Tryz.prog 95 #[.slice A xs.length cap] w (aqL Ins.enc 3 121 w xs) := by
  cases A with
  | none =>
    have hnil : xs = [] := by
      rcases xs with _ | ⟨x, xs⟩
      · rfl
      · obtain ⟨b, o, e, _⟩ := hx.2 (by simp)
        cases e
    subst hnil
    have q : ∀ (w : World) (a : Option Addr) (n c n' c' : Nat), (binOp .eql 119 (.slice a n c) (.slice none n' c')).run Tryz.prog w = .ok (.bool a.isNone) w := fun w a n c n' c' => Lib.run_eql_slice_nil w _ _ a n c n' c' Tryz.underlying119
    go_enter Tryz.func95, Tryz.ntmps95
    go_wp2
    go_ret
    exact ⟨⟨none, 0, rfl, World.ownsRow_nil _ _ _ _⟩, Below.refl _ _⟩
  | some a =>
    obtain ⟨i0, hi, hz0, hz1, hz2⟩ := info_parts aDj
    have q : ∀ (w : World) (a : Option Addr) (n c n' c' : Nat), (binOp .eql 119 (.slice a n c) (.slice none n' c')).run Tryz.prog w = .ok (.bool a.isNone) w := fun w a n c n' c' => Lib.run_eql_slice_nil w _ _ a n c n' c' Tryz.underlying119
    have hcell := Lib.hid (aqU (sz := 3) (w := w) (B := w.heap.size) (fun _ => rfl) (by decide) hx (Obj.cells #[] 121))
    clear hx
    go_enter Tryz.func95, Tryz.ntmps95
    go_wp2_with (at_builtin; refine wpList_append_own_at _ rfl _ _ 119 rfl w.heap.size 121 i0 (.agg #[.int .i64 0, .int .i64 0, .int .i64 0]) 3 24 Tryz.underlying119 hi hz0 hz1 hz2 rfl (by decide) _ _ _ rfl (World.ownsRow_made w #[] 0 (Nat.le_refl _) (Nat.zero_le _) rfl) a xs.length cap (xs.flatMap Ins.enc) rfl ?qc0 ?qc1 ?qc2 ?qc3 ?qc4 ?qc5 ?_)
    case qc0 => exact ahJ (enc := Ins.enc) (sz := 3) (fun _ => rfl) xs
    case qc1 => exact hcell.out
    case qc2 => intro u hu; rw [List.mem_flatMap] at hu; obtain ⟨x, _, hu⟩ := hu; simp [Ins.enc] at hu; rcases hu with rfl | rfl | rfl <;> rfl
    case qc3 => unfold maxLen; omega
    case qc4 => omega
    case qc5 => simp
    intro v' w1 hown hgrow _ _
    obtain ⟨A', c', hv⟩ := aly hown
    subst hv
    clear hcell
    go_wp2
    go_ret
    exact ⟨⟨A', c', by simp, by simpa using hown⟩, ((Below.refl _ w).alloc (Nat.le_refl _) _).grown hgrow (by simp) (by intro k hk; simp [Value.ownBlock] at hk; omega)⟩
set_option maxHeartbeats 2000000 in
theorem ar0 (A : Option Addr) (cap : Nat) (xs : List (Option Addr × Nat × Nat)) (w : World) (hx : Sl an2 1 w w.heap.size A xs) (hn : xs.length ≤ 1000000) :
    Calls Tryz.prog 94 #[.slice A xs.length cap] w (aqL an2 1 119 w xs) := by
  cases A with
  | none =>
    have hnil : xs = [] := by
      rcases xs with _ | ⟨x, xs⟩
      · rfl
      · obtain ⟨b, o, e, _⟩ := hx.2 (by simp)
        cases e
    subst hnil
    have q : ∀ (w : World) (a : Option Addr) (n c n' c' : Nat), (binOp .eql 25 (.slice a n c) (.slice none n' c')).run Tryz.prog w = .ok (.bool a.isNone) w := fun w a n c n' c' => Lib.run_eql_slice_nil w _ _ a n c n' c' Tryz.underlying25
    go_enter Tryz.func94, Tryz.ntmps94
    go_wp2
    go_ret
    exact ⟨⟨none, 0, rfl, World.ownsRow_nil _ _ _ _⟩, Below.refl _ _⟩
  | some a =>
    obtain ⟨i0, hi, hz0, hz1, hz2⟩ := info_parts aCA
    have q : ∀ (w : World) (a : Option Addr) (n c n' c' : Nat), (binOp .eql 25 (.slice a n c) (.slice none n' c')).run Tryz.prog w = .ok (.bool a.isNone) w := fun w a n c n' c' => Lib.run_eql_slice_nil w _ _ a n c n' c' Tryz.underlying25
    have hcell := Lib.hid (aqU (sz := 1) (w := w) (B := w.heap.size) (fun _ => rfl) (by decide) hx (Obj.cells #[] 119))
    clear hx
    go_enter Tryz.func94, Tryz.ntmps94
    go_wp2_with (at_builtin; refine wpList_append_own_at _ rfl _ _ 25 rfl w.heap.size 119 i0 (.slice none 0 0) 1 24 Tryz.underlying25 hi hz0 hz1 hz2 rfl (by decide) _ _ _ rfl (World.ownsRow_made w #[] 0 (Nat.le_refl _) (Nat.zero_le _) rfl) a xs.length cap (xs.flatMap an2) rfl ?qc0 ?qc1 ?qc2 ?qc3 ?qc4 ?qc5 ?_)
    case qc0 => exact ahJ (enc := an2) (sz := 1) (fun _ => rfl) xs
    case qc1 => exact hcell.out
    case qc2 => intro u hu; rw [List.mem_flatMap] at hu; obtain ⟨x, _, hu⟩ := hu; simp [an2] at hu; rcases hu with rfl; rfl
    case qc3 => unfold maxLen; omega
    case qc4 => omega
    case qc5 => simp
    intro v' w1 hown hgrow _ _
    obtain ⟨A', c', hv⟩ := aly hown
    subst hv
    clear hcell
    go_wp2
    go_ret
    exact ⟨⟨A', c', by simp, by simpa using hown⟩, ((Below.refl _ w).alloc (Nat.le_refl _) _).grown hgrow (by simp) (by intro k hk; simp [Value.ownBlock] at hk; omega)⟩
set_option maxHeartbeats 2000000 in
theorem arY (A : Option Addr) (cap : Nat) (xs : List Sub) (w : World) (hx : Sl Sub.enc 3 w w.heap.size A xs) (hn : xs.length ≤ 1000000) :
    Calls Tryz.prog 96 #[.slice A xs.length cap] w (aqL Sub.enc 3 123 w xs) := by
  cases A with
  | none =>
    have hnil : xs = [] := by
      rcases xs with _ | ⟨x, xs⟩
      · rfl
      · obtain ⟨b, o, e, _⟩ := hx.2 (by simp)
        cases e
    subst hnil
    have q : ∀ (w : World) (a : Option Addr) (n c n' c' : Nat), (binOp .eql 26 (.slice a n c) (.slice none n' c')).run Tryz.prog w = .ok (.bool a.isNone) w := fun w a n c n' c' => Lib.run_eql_slice_nil w _ _ a n c n' c' Tryz.underlying26
    go_enter Tryz.func96, Tryz.ntmps96
    go_wp2
    go_ret
    exact ⟨⟨none, 0, rfl, World.ownsRow_nil _ _ _ _⟩, Below.refl _ _⟩
  | some a =>
    obtain ⟨i0, hi, hz0, hz1, hz2⟩ := info_parts aB2
    have q : ∀ (w : World) (a : Option Addr) (n c n' c' : Nat), (binOp .eql 26 (.slice a n c) (.slice none n' c')).run Tryz.prog w = .ok (.bool a.isNone) w := fun w a n c n' c' => Lib.run_eql_slice_nil w _ _ a n c n' c' Tryz.underlying26
    have hcell := Lib.hid (aqU (sz := 3) (w := w) (B := w.heap.size) (fun _ => rfl) (by decide) hx (Obj.cells #[] 123))
    clear hx
    go_enter Tryz.func96, Tryz.ntmps96
    go_wp2_with (at_builtin; refine wpList_append_own_at _ rfl _ _ 26 rfl w.heap.size 123 i0 (.agg #[.int .i64 0, .int .i64 0, .int .i64 0]) 3 24 Tryz.underlying26 hi hz0 hz1 hz2 rfl (by decide) _ _ _ rfl (World.ownsRow_made w #[] 0 (Nat.le_refl _) (Nat.zero_le _) rfl) a xs.length cap (xs.flatMap Sub.enc) rfl ?qc0 ?qc1 ?qc2 ?qc3 ?qc4 ?qc5 ?_)
    case qc0 => exact ahJ (enc := Sub.enc) (sz := 3) (fun _ => rfl) xs
    case qc1 => exact hcell.out
    case qc2 => intro u hu; rw [List.mem_flatMap] at hu; obtain ⟨x, _, hu⟩ := hu; simp [Sub.enc] at hu; rcases hu with rfl | rfl | rfl <;> rfl
    case qc3 => unfold maxLen; omega
    case qc4 => omega
    case qc5 => simp
    intro v' w1 hown hgrow _ _
    obtain ⟨A', c', hv⟩ := aly hown
    subst hv
    clear hcell
    go_wp2
    go_ret
    exact ⟨⟨A', c', by simp, by simpa using hown⟩, ((Below.refl _ w).alloc (Nat.le_refl _) _).grown hgrow (by simp) (by intro k hk; simp [Value.ownBlock] at hk; omega)⟩
end
section
open Go Go.RowKit
variable [Tb]
noncomputable def ake (l : List Ins) : Option ((List Ins × Unit) × Unit) := if l.length ≤ 1000000 then some ((l, ()), ()) else none
noncomputable abbrev aqE : Con SR1 := ⟨95, [.sh (.ro 3)], [.sh (.row 3)], fun x => ake x.1⟩
noncomputable def ahM (l : List Sub) : Option ((List Sub × Unit) × Unit) := if l.length ≤ 1000000 then some ((l, ()), ()) else none
noncomputable abbrev apK : Con SR1 := ⟨96, [.sh (.ro 4)], [.sh (.row 4)], fun x => ahM x.1⟩
theorem av1 {f : FuncId} (hf : Nat.blt f agl = true) {c sz : Nat} {el : TypeId} (hp : ∀ x, at3 (SR1.kt.vw c x) = true) (hsz : SR1.kt.sz c = sz) {spec : List (SR1.T c) → Option ((List (SR1.T c) × Unit) × Unit)} (hspec : ∀ l o, spec l = some o → o = ((l, ()), ()) ∧ l.length ≤ 1000000)
    (h : ∀ (A : Option Addr) (cap : Nat) (xs : List (SR1.T c)) (w : World), Sl (aeR SR1.kt c) sz w w.heap.size A xs → xs.length ≤ 1000000 → Calls Tryz.prog f #[.slice A xs.length cap] w (aqL (aeR SR1.kt c) sz el w xs)) :
    CO Tryz.prog ⟨f, [.sh (.ro c)], [.sh (.row c)], fun x => spec x.1⟩ := fun x out hx B W hg vs F w hw => by
  obtain ⟨hb, hB, hs⟩ := hw
  obtain ⟨ho, hl⟩ := hspec x.1 out hx
  subst ho
  show afO Tryz.prog f _ w _
  rw [adQ hf]
  rcases vs with _ | ⟨v, _ | ⟨v2, vs⟩⟩
  · exact aaM hs
  · replace hs : Sat B w [pcS SR1.kt (.ro c x.1) v, F] := hs
    obtain ⟨A, cap, rfl, hsl⟩ := aBs hs
    have s1 := hs.drop
    rw [hsz] at hsl
    refine (h A cap x.1 w hsl hl).mono fun e w' ⟨⟨A', c', he, hown⟩, hb'⟩ => ⟨[.slice A' (List.length x.1) c'], he, hb.trans (hb'.mono hB), Nat.le_trans hB hb'.size, ?_⟩
    have s2 := akP s1 hb' hB hown
    rw [← hsz] at s2
    exact alk hp s2
  · replace hs : Sat B w (pcS SR1.kt (.ro c x.1) v :: ([fun _ => False] ++ [F])) := hs
    exact aaM hs.drop
theorem auI : CO Tryz.prog aqE := av1 rfl (c := 3) (sz := 3) (fun _ => rfl) rfl (spec := ake) (fun l o h => by
  unfold ake at h
  split at h
  · rename_i hl; cases h; exact ⟨rfl, hl⟩
  · cases h) fun A cap xs w hx hn => atw A cap xs w hx hn
theorem atu : CO Tryz.prog apK := av1 rfl (c := 4) (sz := 3) (fun _ => rfl) rfl (spec := ahM) (fun l o h => by
  unfold ahM at h
  split at h
  · rename_i hl; cases h; exact ⟨rfl, hl⟩
  · cases h) fun A cap xs w hx hn => arY A cap xs w hx hn
noncomputable def ahN (l : List (List Ins)) : Option ((List (List Ins) × Unit) × Unit) := if l.length ≤ 1000000 then some ((l, ()), ()) else none
noncomputable abbrev aip : Con SR1 := ⟨94, [.sh (.rr 3)], [.sh (.row 18)], fun x => ahN x.1⟩
def azt (xss : List (List Ins)) (ps : List (Option Addr × Nat)) : List (Option Addr × Nat × Nat) := List.zipWith (fun xs a => (a.1, xs.length, a.2)) xss ps
theorem ata {Φ : World → Prop} {L : List aad} : ∀ (xss : List (List Ins)) (ps : List (Option Addr × Nat)), xss.length = ps.length → (∀ u, Φ u → ∀ (i : Nat) xs a, xss[i]? = some xs → ps[i]? = some a → Sl (aeR SR1.kt 3) 3 u u.heap.size a.1 xs ∧ xs.length ≤ a.2) →
    Ent (ae1 Φ :: L) (acg SR1.kt (pcS SR1.kt) 18 xss ((azt xss ps).map an2) ++ ae1 Φ :: L)
  | [], [], _, _ => Ent.refl
  | [], _ :: _, h, _ => by cases h
  | _ :: _, [], h, _ => by cases h
  | xs :: xss, a :: ps, hl, hΦ => by
    have ih := ata (Φ := Φ) (L := L) xss ps (by simpa using hl) fun u hu i ys b h1 h2 => hΦ u hu (i + 1) ys b h1 h2
    refine alT.trans (fun h hs => ?_)
    have h1 := abm (A := ae1 Φ) ih hs
    refine aaL (A' := pcS SR1.kt (.ro 3 xs) (.slice a.1 xs.length a.2)) (fun k hk => ?_) h1
    refine aaE.2 (show pcW SR1.kt (obS SR1.kt) (rwS SR1.kt) (.ro 3 xs) (.slice a.1 xs.length a.2) k from ⟨a.1, a.2, rfl, ?_⟩)
    exact adK (fun u hu => hΦ u hu 0 xs a rfl rfl) _ hk
theorem az2 {B : Nat} {w : World} {A R F : aad} {N : List aad} (s : Sat B w (N ++ A :: [R, F])) : Sat B w ((R :: N) ++ [A, F]) := s.perm (aaq fun f g h1 h2 h3 => by simp only [List.cons_append, h1, h2, h3]; omega)
theorem arZ (xss : List (List Ins)) (hl : xss.length ≤ 1000000) (B : Nat) (W : World) (v : Value) (F : aad) (w : World) (hw : Cls B W [pcS SR1.kt (.rr 3 xss) v, F] w) :
    Calls Tryz.prog aip.f #[v] w fun e w' => ∃ u, e = .returned u ∧ Cls B W [pcS SR1.kt (.row 18 xss) u, F] w' := by
  obtain ⟨hb, hB, hs⟩ := hw
  have s1 : Sat B w ((fun h => ∃ A cap, v = .slice A xss.length cap ∧ rrS (aeR SR1.kt 3) (SR1.kt.sz 3) A cap xss h) :: [F]) := abe (alF (S := SR1) (f := .rr 3 xss) (fun _ h => h) fun _ _ h => h) hs
  obtain ⟨h, H, k1, k2, a, e, ⟨A, cap, rfl, ps0, h1⟩, h2⟩ := s1
  have s2 : Sat B w (ae1 _ :: [F]) := ⟨h, H, k1, k2, a, e, h1, h2⟩
  have h3 := alS s2 List.mem_cons_self
  have hps : xss.length ≤ ps0.length := by
    rcases Nat.eq_zero_or_pos xss.length with h0 | h0
    · omega
    · obtain ⟨a, ha, _⟩ := h3.2 (xss.length - 1) _ (List.getElem?_eq_getElem (Nat.sub_lt h0 Nat.one_pos))
      have := (List.getElem?_eq_some_iff.1 ha).1
      omega
  obtain ⟨ps, hpe⟩ : ∃ ps, ps = ps0.take xss.length := ⟨_, rfl⟩
  have hpl : xss.length = ps.length := by rw [hpe, List.length_take]; omega
  have hpg : ∀ (i : Nat) b, ps[i]? = some b → ps0[i]? = some b := fun i b hb => by
    rw [hpe, List.getElem?_take] at hb
    split at hb
    · exact hb
    · cases hb
  have hrl : (azt xss ps).length = xss.length := by unfold azt; rw [List.length_zipWith]; omega
  have hsl : Sl an2 1 w w.heap.size A (azt xss ps) := by
    refine ⟨by omega, fun hne => ?_⟩
    have hpos : 0 < xss.length := by rw [← hrl]; exact List.length_pos_iff.2 hne
    obtain ⟨a0, _, _, b, o, hA, hlt, _⟩ := h3.2 0 _ (List.getElem?_eq_getElem hpos)
    refine ⟨b, o, hA, hlt, fun i x hi j u hu => ?_⟩
    unfold azt at hi
    rw [List.getElem?_zipWith] at hi
    cases hx : xss[i]? with
    | none => rw [hx] at hi; simp at hi
    | some xs =>
      cases hy : ps[i]? with
      | none => rw [hx, hy] at hi; simp at hi
      | some a =>
        rw [hx, hy] at hi
        obtain rfl := Option.some.inj hi
        obtain ⟨a', ha', _, b', o', hA', _, hc⟩ := h3.2 i xs hx
        rw [hpg i a hy] at ha'
        obtain rfl := Option.some.inj ha'
        rw [hA] at hA'
        cases hA'
        cases j with
        | zero =>
          obtain rfl := Option.some.inj hu
          rw [Nat.mul_one, Nat.add_zero]; exact hc
        | succ j => simp [an2] at hu
  have hcl := ar0 A cap (azt xss ps) w hsl (by omega)
  rw [hrl] at hcl
  refine hcl.mono fun e w' ⟨⟨A', c', he, hown⟩, hb'⟩ => ⟨.slice A' xss.length c', by rw [he, hrl], hb.trans (hb'.mono hB), Nat.le_trans hB hb'.size, ?_⟩
  rw [hrl] at hown
  have s3 := akP s2 hb' hB hown
  have s4 : Sat B w' (ae1 _ :: [ae4 A' xss.length c' 1 ((azt xss ps).flatMap an2), F]) := s3.perm (List.Perm.swap ..)
  have s5 := s4.imp (ata xss ps hpl fun u hu i xs a hx hy => by
    obtain ⟨a', ha', hq, _⟩ := hu.2 i xs hx
    rw [hpg i a hy] at ha'
    obtain rfl := Option.some.inj ha'
    exact hq)
  have s6 := az2 s5
  have s7 := ahs (A := pcS SR1.kt (.row 18 xss) (.slice A' xss.length c')) (fun k hk => aaE.2 (show pcW SR1.kt (obS SR1.kt) (rwS SR1.kt) (.row 18 xss) _ k from ⟨A', c', rfl, ade.2 ⟨(azt xss ps).map an2, by
    rw [show ((azt xss ps).map an2).flatten = (azt xss ps).flatMap an2 from by rw [List.flatMap_def]]
    exact hk⟩⟩)) s6
  exact (s7.perm (List.Perm.swap ..)).drop
theorem atv : CO Tryz.prog aip := fun x out hx B W hg vs F w hw => by
  obtain ⟨hb, hB, hs⟩ := hw
  replace hx : ahN x.1 = some out := hx
  unfold ahN at hx
  split at hx
  · rename_i hl
    cases hx
    show afO Tryz.prog aip.f _ w _
    rw [adQ rfl]
    rcases vs with _ | ⟨v, _ | ⟨v2, vs⟩⟩
    · exact aaM hs
    · exact (arZ x.1 hl B W v F w ⟨hb, hB, hs⟩).mono fun e w' ⟨u, he, h⟩ => ⟨[u], he, h⟩
    · replace hs : Sat B w (pcS SR1.kt (.rr 3 x.1) v :: ([fun _ => False] ++ [F])) := hs
      exact aaM hs.drop
  · cases hx
end
section
open Go.RowKit
set_option maxHeartbeats 400000 in
theorem afM (a b c : Int) (w : World) :
    Calls Tryz.prog 89 #[.int .i64 a, .int .i64 b, .int .i64 c] w fun e w' => e = .returned (.bool (inB a b c)) ∧ w = w' := by
  unfold inB
  by_cases h : b ≤ a
  all_goals
    go_enter Tryz.func89, Tryz.ntmps89
    go_wp2
    go_ret
    all_goals (simp [*] <;> omega)
set_option maxHeartbeats 1000000 in
theorem ahh (c : Cfg) (l : CfgAt) (w : World) :
    Calls Tryz.prog 69 #[atQ c l] w fun e w' => e = .returned (.bool (akB c)) ∧ Below w.heap.size w w' := by
  unfold atQ akB
  by_cases hl : c.levels < 8
  all_goals
    go_enter Tryz.func69, Tryz.ntmps69
    go_wp2_with (first | (go_at_call 89; refine (afM _ _ _ _).mono ?_; rintro e w' ⟨rfl, rfl⟩))
    all_goals go_ret
    all_goals simp [*]
    all_goals exact (Below.refl _ _).alloc (Nat.le_refl _) _
set_option maxHeartbeats 1000000 in
theorem anA (c : Cfg) (l : CfgAt) (x : Ins) (w : World) (h1 : 1 ≤ c.levels) (h2 : c.levels ≤ 64) (hp : c.progs.length ≤ 9223372036854775807) :
    Calls Tryz.prog 90 #[atQ c l, .agg #[.int .i64 x.op, .int .i64 x.a, .int .i64 x.b]] w fun e w' => e = .returned (.bool (ap9 c.levels c.progs.length x)) ∧ Below w.heap.size w w' := by
  unfold atQ
  go_enter Tryz.func90, Tryz.ntmps90
  go_wp2_with (first | (go_at_call 89; refine (afM _ _ _ _).mono ?_; rintro e w' ⟨rfl, rfl⟩))
  all_goals go_ret
  all_goals refine ⟨az4 (by unfold ap9; simp_all), ?_⟩
  all_goals exact ((Below.refl _ _).alloc (Nat.le_refl _) _).alloc (by simp) _
theorem alD {lv np : Int} {ps : List (List Ins)} {k : Nat} (hk : k < ps.length) (h : abr lv np (ps.drop k) = abr lv np ps) (hl : 32 < ps[k].length) : abr lv np ps = 2 := by
  rw [← h, List.drop_eq_getElem_cons hk]; simp [abr, hl]
theorem amI {lv np : Int} {ps : List (List Ins)} {k j : Nat} (hk : k < ps.length) (h : abr lv np (ps.drop k) = abr lv np ps) (hl : ps[k].length ≤ 32) (hj : j < ps[k].length) (hb : ap9 lv np ps[k][j] = false) : abr lv np ps = 1 := by
  rw [← h, List.drop_eq_getElem_cons hk]
  have : ps[k].all (ap9 lv np) = false := by
    rw [List.all_eq_false]; exact ⟨_, List.getElem_mem hj, by simp [hb]⟩
  simp [abr, Nat.not_lt.2 hl, this]
theorem alC {lv np : Int} {ps : List (List Ins)} {k : Nat} (hk : k < ps.length) (h : abr lv np (ps.drop k) = abr lv np ps) (hl : ps[k].length ≤ 32) (ha : (ps[k].take ps[k].length).all (ap9 lv np) = true) : abr lv np (ps.drop (k + 1)) = abr lv np ps := by
  rw [← h, List.drop_eq_getElem_cons hk]
  rw [List.take_length] at ha
  simp [abr, Nat.not_lt.2 hl, ha]
theorem asc {α : Type} {f : α → Bool} {l : List α} {j : Nat} (hj : j < l.length) (h : (l.take j).all f = true) (hf : f l[j] = true) : (l.take (j + 1)).all f = true := by
  rw [List.take_succ_eq_append_getElem hj, List.all_append, h]; simp [hf]
def aHp (lv np : Int) (ps : List (List Ins)) (k : Nat) : Prop := abr lv np (ps.drop k) = abr lv np ps
def aHh (lv np : Int) (p : List Ins) (k : Nat) : Prop := (p.take k).all (ap9 lv np) = true
@[reducible] def ayV (c : Cfg) (l : CfgAt) : Obj := .cells #[.int .i64 c.workers, .int .i64 c.levels, .int .i64 c.classes, .int .i64 c.tasks, .int .i64 c.deque, .int .i64 c.heap, .int .i64 c.batch, .int .i64 c.age, .int .i64 c.patience, .slice l.pa c.progs.length l.pc, .slice l.sa c.subs.length l.sc] 28
set_option maxHeartbeats 2000000 in
theorem ajF (c : Cfg) (l : CfgAt) (w : World) (h1 : 1 ≤ c.levels) (h2 : c.levels ≤ 64) (hc : amo w w.heap.size c l) :
    Calls Tryz.prog 70 #[atQ c l] w fun e w' => e = .returned (.int .i64 (adB c)) ∧ Below w.heap.size w w' := by
  have hlen := hc.1.1
  by_cases hp : inB (c.progs.length : Int) 1 32 = true
  · have hfin : adB c = abr c.levels c.progs.length c.progs := by simp [adB, hp]
    have Hfin := Lib.hid hfin
    clear hfin
    unfold atQ
    go_enter Tryz.func70, Tryz.ntmps70
    go_wp2_with (first | (go_at_call 89; refine (afM _ _ _ _).mono ?_; rintro e w' ⟨rfl, rfl⟩))
    go_loopw [15] (fun i wr => ∃ k : Nat, k ≤ c.progs.length ∧ i = .int .i64 k ∧ aHp c.levels c.progs.length c.progs k ∧ Below (w.heap.size + 1) (w.alloc (ayV c l)) wr) (fun i _ => c.progs.length - (intOf i).toNat)
    case atStart => exact ⟨0, Nat.zero_le _, rfl, rfl, Below.refl _ _⟩
    case round =>
      obtain ⟨k, hk, rfl, hi, hb⟩ := hrel
      have hB : w.heap.size < wr.heap.size := by have := hb.size; simp at this; omega
      have hbw : Below w.heap.size w wr := ((Below.refl _ _).alloc (Nat.le_refl _) _).trans (hb.mono (by omega))
      by_cases hlt : k < c.progs.length
      · obtain ⟨b, o, hpa, hbb, Ai, ci, hcell, hsl⟩ := hc.1.at_ hlt
        have hln := hsl.len
        obtain ⟨hcs, hfz⟩ := ar7 hb
        by_cases hlong : 32 < c.progs[k].length
        · have hres := Lib.hid (alD hlt hi hlong)
          obtain ⟨pa, pc, sa, sc⟩ := l
          obtain rfl : pa = some ⟨b, o, none⟩ := hpa
          go_wp2
          go_ret
          exact ⟨afS (by rw [Hfin.out, hres.out]), hbw⟩
        · obtain ⟨pa, pc, sa, sc⟩ := l
          obtain rfl : pa = some ⟨b, o, none⟩ := hpa
          go_wp2
          obtain ⟨wo, rfl⟩ : ∃ wo : World, wo = wr := ⟨_, rfl⟩
          clear hcs hfz
          go_loopw [24] (fun i ws => ∃ j : Nat, j ≤ c.progs[k].length ∧ i = .int .i64 j ∧ aHh c.levels c.progs.length c.progs[k] j ∧ Below (w.heap.size + 1) (w.alloc (ayV c ⟨some ⟨b, o, none⟩, pc, sa, sc⟩)) ws) (fun i _ => c.progs[k].length - (intOf i).toNat)
          case atStart => exact ⟨0, Nat.zero_le _, rfl, by simp [aHh], hb⟩
          case round =>
            obtain ⟨j, hj, rfl, hq, hb2⟩ := hrel
            have hB2 : w.heap.size < wr.heap.size := by have := hb2.size; simp at this; omega
            have hbw2 : Below w.heap.size w wr := ((Below.refl _ _).alloc (Nat.le_refl _) _).trans (hb2.mono (by omega))
            by_cases hjt : j < c.progs[k].length
            · obtain ⟨b2, o2, hpa2, hbb2, hcc⟩ := hsl.at_ hjt
              obtain rfl : Ai = some ⟨b2, o2, none⟩ := hpa2
              obtain ⟨hcs, hfz⟩ := ar7 hb2
              have c0 : w.cell? ⟨b2, o2 + j * 3, none⟩ = some (.int .i64 c.progs[k][j].op) := hcc j hjt 0 _ rfl
              have c1 : w.cell? ⟨b2, o2 + j * 3 + 1, none⟩ = some (.int .i64 c.progs[k][j].a) := hcc j hjt 1 _ rfl
              have c2 : w.cell? ⟨b2, o2 + j * 3 + 2, none⟩ = some (.int .i64 c.progs[k][j].b) := hcc j hjt 2 _ rfl
              by_cases hok : ap9 c.levels c.progs.length c.progs[k][j] = true
              · go_wp2_with (first | (go_at_call 90; refine (anA c ⟨some ⟨b, o, none⟩, pc, sa, sc⟩ c.progs[k][j] _ h1 h2 hlen).mono ?_; rintro e w' ⟨rfl, hbv⟩))
                go_roundw
                case rel => exact ⟨j + 1, by omega, by go_num, asc hjt hq hok, (hb2.alloc (by omega) _).trans (hbv.mono (by simp; omega))⟩
                case measure => simp [intOf]; omega
              · have hok' : ap9 c.levels c.progs.length c.progs[k][j] = false := by simpa using hok
                clear hok
                have hres := Lib.hid (amI hlt hi (by omega) hjt hok')
                go_wp2_with (first | (go_at_call 90; refine (anA c ⟨some ⟨b, o, none⟩, pc, sa, sc⟩ c.progs[k][j] _ h1 h2 hlen).mono ?_; rintro e w' ⟨rfl, hbv⟩))
                go_ret
                exact ⟨afS (by rw [Hfin.out, hres.out]), ((Below.refl _ _).alloc (Nat.le_refl _) _).trans (((hb2.alloc (by omega) _).trans (hbv.mono (by simp; omega))).mono (by omega))⟩
            · obtain ⟨hcs, hfz⟩ := ar7 hb2
              go_wp2
              go_roundw
              case rel => exact ⟨k + 1, by omega, by go_num, alC hlt hi (by omega) (by
                have e : j = c.progs[k].length := by omega
                subst e; exact hq), hb2⟩
              case measure => simp [intOf]; omega
      · go_wp2
        go_ret
        exact ⟨afS (by
          have hi' : abr c.levels c.progs.length (c.progs.drop k) = abr c.levels c.progs.length c.progs := hi
          rw [Hfin.out, ← hi', List.drop_eq_nil_of_le (by omega)]; rfl), hbw⟩
  · have hfin : adB c = 2 := by simp [adB, hp]
    have Hfin := Lib.hid hfin
    clear hfin
    unfold atQ
    go_enter Tryz.func70, Tryz.ntmps70
    go_wp2_with (first | (go_at_call 89; refine (afM _ _ _ _).mono ?_; rintro e w' ⟨rfl, rfl⟩))
    go_ret
    exact ⟨afS Hfin.out.symm, (Below.refl _ _).alloc (Nat.le_refl _) _⟩
theorem anJ {lv np : Int} {ss : List Sub} {k : Nat} (hk : k < ss.length) (h : adv lv np (ss.drop k) = adv lv np ss) {e : Int} (he : aoN lv np ss[k] = e) (hne : e ≠ 0) : adv lv np ss = e := by
  subst he
  rw [← h, List.drop_eq_getElem_cons hk]; simp [adv, hne]
theorem amv {lv np : Int} {ss : List Sub} {k : Nat} (hk : k < ss.length) (h : adv lv np (ss.drop k) = adv lv np ss) (he : aoN lv np ss[k] = 0) : adv lv np (ss.drop (k + 1)) = adv lv np ss := by
  rw [← h, List.drop_eq_getElem_cons hk]; simp [adv, he]
def aHo (lv np : Int) (ss : List Sub) (k : Nat) : Prop := adv lv np (ss.drop k) = adv lv np ss
set_option maxHeartbeats 2000000 in
theorem auL (c : Cfg) (l : CfgAt) (w : World) (h1 : 1 ≤ c.levels) (h2 : c.levels ≤ 64) (hc : amo w w.heap.size c l) :
    Calls Tryz.prog 71 #[atQ c l] w fun e w' => e = .returned (.int .i64 (ahc c)) ∧ Below w.heap.size w w' := by
  have hlen := hc.1.1
  have hlen2 := hc.2.1
  by_cases hp : 64 < c.subs.length
  · have hfin : ahc c = 2 := by simp [ahc, hp]
    have Hfin := Lib.hid hfin
    clear hfin
    unfold atQ
    go_enter Tryz.func71, Tryz.ntmps71
    go_wp2
    go_ret
    exact ⟨afS Hfin.out.symm, (Below.refl _ _).alloc (Nat.le_refl _) _⟩
  · have hfin : ahc c = adv c.levels c.progs.length c.subs := by simp [ahc, hp]
    have Hfin := Lib.hid hfin
    clear hfin
    unfold atQ
    go_enter Tryz.func71, Tryz.ntmps71
    go_wp2
    go_loopw [12] (fun i wr => ∃ k : Nat, k ≤ c.subs.length ∧ i = .int .i64 k ∧ aHo c.levels c.progs.length c.subs k ∧ Below (w.heap.size + 1) (w.alloc (ayV c l)) wr) (fun i _ => c.subs.length - (intOf i).toNat)
    case atStart => exact ⟨0, Nat.zero_le _, rfl, rfl, Below.refl _ _⟩
    case round =>
      obtain ⟨k, hk, rfl, hi, hb⟩ := hrel
      have hB : w.heap.size < wr.heap.size := by have := hb.size; simp at this; omega
      have hbw : Below w.heap.size w wr := ((Below.refl _ _).alloc (Nat.le_refl _) _).trans (hb.mono (by omega))
      obtain ⟨hcs, hfz⟩ := ar7 hb
      by_cases hlt : k < c.subs.length
      · obtain ⟨b, o, hpa, hbb, hcc⟩ := hc.2.at_ hlt
        obtain ⟨pa, pc, sa, sc⟩ := l
        obtain rfl : sa = some ⟨b, o, none⟩ := hpa
        have c0 : w.cell? ⟨b, o + k * 3, none⟩ = some (.int .i64 c.subs[k].prog) := hcc k hlt 0 _ rfl
        have c1 : w.cell? ⟨b, o + k * 3 + 1, none⟩ = some (.int .i64 c.subs[k].level) := hcc k hlt 1 _ rfl
        have c2 : w.cell? ⟨b, o + k * 3 + 2, none⟩ = some (.int .i64 c.subs[k].deadline) := hcc k hlt 2 _ rfl
        have hse : aoN c.levels c.progs.length c.subs[k] = if !inB c.subs[k].prog 0 (c.progs.length - 1) then 3 else if !inB c.subs[k].level 0 (c.levels - 1) || !inB c.subs[k].deadline 0 16777215 then 1 else 0 := rfl
        have Hse := Lib.hid hse
        clear hse
        have bad := fun e he hne => Lib.hid (anJ (e := e) hlt hi he hne)
        by_cases g1 : inB c.subs[k].prog 0 (c.progs.length - 1) = true
        · by_cases g2 : inB c.subs[k].level 0 (c.levels - 1) = true
          · by_cases g3 : inB c.subs[k].deadline 0 16777215 = true
            · go_wp2_with (first | (go_at_call 89; refine (afM _ _ _ _).mono ?_; rintro e w' ⟨rfl, rfl⟩))
              go_roundw
              case rel => exact ⟨k + 1, by omega, by go_num, amv hlt hi (by rw [Hse.out]; simp [g1, g2, g3]), hb.alloc (by omega) _⟩
              case measure => simp [intOf]; omega
            · go_wp2_with (first | (go_at_call 89; refine (afM _ _ _ _).mono ?_; rintro e w' ⟨rfl, rfl⟩))
              go_ret
              exact ⟨afS (by rw [Hfin.out, (bad 1 (by rw [Hse.out]; simp [g1, g2, g3]) (by omega)).out]), hbw.alloc (by omega) _⟩
          · go_wp2_with (first | (go_at_call 89; refine (afM _ _ _ _).mono ?_; rintro e w' ⟨rfl, rfl⟩))
            go_ret
            exact ⟨afS (by rw [Hfin.out, (bad 1 (by rw [Hse.out]; simp [g1, g2]) (by omega)).out]), hbw.alloc (by omega) _⟩
        · go_wp2_with (first | (go_at_call 89; refine (afM _ _ _ _).mono ?_; rintro e w' ⟨rfl, rfl⟩))
          go_ret
          exact ⟨afS (by rw [Hfin.out, (bad 3 (by rw [Hse.out]; simp [g1]) (by omega)).out]), hbw.alloc (by omega) _⟩
      · go_wp2
        go_ret
        exact ⟨afS (by
          have hi' : adv c.levels c.progs.length (c.subs.drop k) = adv c.levels c.progs.length c.subs := hi
          rw [Hfin.out, ← hi', List.drop_eq_nil_of_le (by omega)]; rfl), hbw⟩
set_option maxHeartbeats 2000000 in
theorem aty (c : Cfg) (l : CfgAt) (w : World) (hc : amo w w.heap.size c l) :
    Calls Tryz.prog 39 #[atQ c l] w fun e w' => e = .returned (.int .i64 (afN c)) ∧ Below w.heap.size w w' := by
  by_cases hn : akB c = true
  · obtain ⟨_, _, h1, h2, _⟩ := ah7 hn
    by_cases hp : adB c = 0
    · have hfin : afN c = ahc c := by simp [afN, hn, hp]
      have Hfin := Lib.hid hfin
      clear hfin
      unfold atQ
      go_enter Tryz.func39, Tryz.ntmps39
      go_wp2_with fail
      refine (ahh c l _).mono ?_; rintro e w1 ⟨rfl, hb1⟩
      obtain ⟨hc1, hf1⟩ := ar7 hb1
      have hw1 := anc hb1
      go_wp2_with fail
      refine (ajF c l _ h1 h2 (hc.up hw1)).mono ?_; rintro e w2 ⟨rfl, hb2⟩
      have hw2 := ahQ hw1 hb2
      obtain ⟨hc2, hf2⟩ := ar7 (ahQ hb1 hb2)
      clear hc1 hf1
      go_wp2_with fail
      refine (auL c l _ h1 h2 (hc.up hw2)).mono ?_; rintro e w3 ⟨rfl, hb3⟩
      go_wp2_with fail
      go_ret
      exact ⟨afS Hfin.out.symm, ahQ hw2 hb3⟩
    · have hfin : afN c = adB c := by simp [afN, hn, hp]
      have Hfin := Lib.hid hfin
      have hp' : (adB c == 0) = false := by simpa using hp
      clear hfin hp
      unfold atQ
      go_enter Tryz.func39, Tryz.ntmps39
      go_wp2_with fail
      refine (ahh c l _).mono ?_; rintro e w1 ⟨rfl, hb1⟩
      obtain ⟨hc1, hf1⟩ := ar7 hb1
      have hw1 := anc hb1
      go_wp2_with fail
      refine (ajF c l _ h1 h2 (hc.up hw1)).mono ?_; rintro e w2 ⟨rfl, hb2⟩
      have hw2 := ahQ hw1 hb2
      obtain ⟨hc2, hf2⟩ := ar7 (ahQ hb1 hb2)
      clear hc1 hf1
      go_wp2_with fail
      go_ret
      exact ⟨afS Hfin.out.symm, hw2⟩
  · have hfin : afN c = 1 := by simp [afN, hn]
    have Hfin := Lib.hid hfin
    clear hfin
    unfold atQ
    go_enter Tryz.func39, Tryz.ntmps39
    go_wp2_with fail
    refine (ahh c l _).mono ?_; rintro e w1 ⟨rfl, hb1⟩
    have hw1 := anc hb1
    go_wp2_with fail
    go_ret
    exact ⟨afS Hfin.out.symm, hw1⟩
end
section
open Go Go.RowKit
variable [Tb]
theorem aDK {f : FuncId} (hf : Nat.blt f agl = true) {r : Cfg → Int} (h : ∀ (c : Cfg) (l : CfgAt) (w : World), amo w w.heap.size c l → Calls Tryz.prog f #[atQ c l] w fun e w' => e = .returned (.int .i64 (r c)) ∧ Below w.heap.size w w') :
    CO Tryz.prog (⟨f, [.val 13], [.sh sI_], fun x => some ((r x.1, ()), ())⟩ : Con SR1) := fun x out hx B W hg vs F w hc => by
  obtain ⟨hb, hB, hs⟩ := hc
  replace hx : (some ((r x.1, ()), ()) : Option ((Int × Unit) × Unit)) = some out := hx
  obtain rfl := Option.some.inj hx
  show afO Tryz.prog f _ w _
  rw [adQ hf]
  rcases vs with _ | ⟨v1, _ | ⟨v2, vs⟩⟩
  · exact aaM hs
  · replace hs : Sat B w (azE SR1 13 x.1 v1 :: [F]) := hs
    obtain ⟨p, rfl, hp, s1⟩ := aCs hs
    exact (h x.1 p w hp).mono fun e w' ⟨he, hb'⟩ => ⟨[.int .i64 (r x.1)], he, hb.trans (hb'.mono hB), Nat.le_trans hB hb'.size, aEv (S := SR1) (s1.below hb')⟩
  · replace hs : Sat B w (azE SR1 13 x.1 v1 :: ([fun _ => False] ++ [F])) := hs
    exact aaM hs.drop
def akf (c : Cfg) : Option ((Int × Unit) × Unit) := some ((afN c, ()), ())
noncomputable abbrev ahP : Con SR1 := ⟨39, [.val 13], [.sh sI_], fun x => akf x.1⟩
theorem ait : CO Tryz.prog ahP := aDK (by kernel_rfl) aty
end
section
open Go
def aaK {α : Type} (o : Option α) (P : α → Prop) : Prop := ∃ x, o = some x ∧ P x
section
variable {α β : Type} {o : Option α} {P Q : α → Prop} {x : α}
theorem aaK.some_ (h : P x) : aaK (some x) P := ⟨x, rfl, h⟩
theorem aaK.bind {f : α → Option β} {Q : β → Prop} (h : aaK o P) (k : ∀ x, P x → aaK (f x) Q) : aaK (o.bind f) Q := by
  obtain ⟨x, rfl, hx⟩ := h
  exact k x hx
theorem aaK.ite {c : Prop} [Decidable c] {a b : Option α} (h1 : c → aaK a P) (h2 : ¬ c → aaK b P) : aaK (if c then a else b) P := by
  by_cases h : c
  · rw [if_pos h]; exact h1 h
  · rw [if_neg h]; exact h2 h
theorem aaK.guard {c : Prop} [Decidable c] {a b : Option α} (h : c) (k : c → aaK a P) : aaK (if c then a else b) P := by rw [if_pos h]; exact k h
theorem aaK.mono (h : aaK o P) (k : ∀ x, P x → Q x) : aaK o Q := by
  obtain ⟨x, e, hx⟩ := h
  exact ⟨x, e, k x hx⟩
end
def Rg (x : Int) : Prop := -9223372036854775808 ≤ x ∧ x ≤ 9223372036854775807
theorem aaH {x : Int} (h : Rg x) : wi x = x := w64 h.1 h.2
theorem aao {x : Int} (h : -1000000000000 ≤ x ∧ x ≤ 1000000000000) : Rg x := by unfold Rg; omega
theorem aqO {a b : Int} (h1 : 1 ≤ b) (h2 : 0 ≤ a) : 0 ≤ Int.tmod a b ∧ Int.tmod a b < b := ⟨Int.tmod_nonneg b h2, Int.tmod_lt_of_pos a (by omega)⟩
theorem acd {σ β : Type} {F : (σ → Option β) → σ → Option β} (I : σ → Prop) (μ : σ → Nat) {P : β → Prop} (step : ∀ self x, I x → (∀ y, I y → μ y < μ x → aaK (self y) P) → aaK (F self x) P) : ∀ k x, I x → μ x < k → aaK (lpF F k x) P
  | 0, x, _, h => by omega
  | k + 1, x, hx, h => step (lpF F k) x hx fun y hy hlt => acd I μ step k y hy (by omega)
theorem awN {α : Type} {d : α} {xs : List α} {i : Int} (h : 0 ≤ i ∧ i < (xs.length : Int)) : atL d xs i ∈ xs := List.mem_of_getElem? (aep h)
theorem anb {α β : Type} {G : Prop} [d : Decidable G] (A : Option α) (f : α → Option β) : (A.bind fun r => if G then f r else none) = if G then A.bind f else none := by
  by_cases h : G
  · simp only [if_pos h]
  · simp only [if_neg h]; cases A <;> rfl
end
section
open Go.RowKit Go.Maps
set_option maxRecDepth 100000
end
section
open Go Go.RowKit
variable [Tb]
set_option maxRecDepth 100000
end
section
open Go Go.RowKit Go.Maps
set_option maxRecDepth 100000
def tzI (x : Int) : Int := IntKind.u64.wrap (bits BinOp.and IntKind.u64 x (IntKind.u64.wrap (-x)) * 285870213051353865) / 288230376151711744
theorem aEl (a : Int) : 0 ≤ IntKind.u64.wrap a ∧ IntKind.u64.wrap a ≤ 18446744073709551615 := by
  simp only [IntKind.wrap, IntKind.bits, IntKind.signed]
  simp
  omega
theorem aw4 (x : Int) : 0 ≤ tzI x ∧ tzI x < 64 := by
  unfold tzI
  have h := aEl (bits BinOp.and IntKind.u64 x (IntKind.u64.wrap (-x)) * 285870213051353865)
  omega
theorem aBW (w : World) : Calls Tryz.prog 197 #[.int .u64 0] w fun e w' => e = .returned (.int .i64 64) ∧ w' = w := by
  go_enter Tryz.func197, Tryz.ntmps197
  go_wp2
  go_ret
  exact ⟨rfl, rfl⟩
theorem azF (w : World) (x : Int) (h : ¬ x = 0) (b : Int) (hI : 0 ≤ IntKind.u64.wrap (bits BinOp.and IntKind.u64 x (IntKind.u64.wrap (-x)) * 285870213051353865) / 288230376151711744 ∧ IntKind.u64.wrap (bits BinOp.and IntKind.u64 x (IntKind.u64.wrap (-x)) * 285870213051353865) / 288230376151711744 < 64) (hb : w.cell? ⟨0, (IntKind.u64.wrap (bits BinOp.and IntKind.u64 x (IntKind.u64.wrap (-x)) * 285870213051353865) / 288230376151711744).toNat, none⟩ = some (.int .u8 b)) : Calls Tryz.prog 197 #[.int .u64 x] w fun e w' => e = .returned (.int .i64 (wrap64 b)) ∧ w' = w := by
  go_enter Tryz.func197, Tryz.ntmps197
  go_wp2
  go_ret
  exact ⟨rfl, rfl⟩
variable [T : Tb]
def tzV (x : Int) : Int := if x = 0 then 64 else wrap64 (T.tb (tzI x).toNat)
def pTz (x : Int) : Option ((Int × Unit) × Unit) := some ((tzV x, ()), ())
noncomputable abbrev aCM : Con SR1 := ⟨197, [.sh sU_], [.sh sI_], fun x => pTz x.1⟩
theorem aEN : CO Tryz.prog aCM := fun x out hx B W hg vs F w hw => by
  obtain ⟨hb, hB, hs⟩ := hw
  obtain ⟨(x : Int), u⟩ := x
  cases hx
  show afO Tryz.prog aCM.f _ w _
  rw [adQ rfl]
  rcases vs with _ | ⟨v, _ | ⟨v2, vs⟩⟩
  · exact aaM hs
  · have hs0 : Sat B w (pcS SR1.kt (.i .u64 x) v :: [F]) := hs
    have hv : v = .int .u64 x := by
      obtain ⟨_, _, _, _, _, _, h1, _⟩ := hs0
      exact (aaE.1 h1 : v = .int .u64 x)
    subst hv
    have hc : Calls Tryz.prog 197 #[.int .u64 x] w fun e w' => e = .returned (.int .i64 (tzV x)) ∧ w' = w := by
      by_cases h : x = 0
      · subst h
        exact aBW w
      · refine (azF w x h (T.tb (tzI x).toNat) (aw4 x) ?_).mono fun e w' ⟨he, hw⟩ => ⟨by rw [he]; unfold tzV; rw [if_neg h], hw⟩
        exact ((ar7 hb).1 0 _ hg.1).trans (hg.2 _ ((Int.toNat_lt (aw4 x).1).2 (aw4 x).2))
    refine hc.mono fun e w' ⟨he, hw'⟩ => ⟨[.int .i64 (tzV x)], he, ?_⟩
    subst hw'
    exact ⟨hb, hB, abn (p := pcS SR1.kt (.i .i64 (tzV x)) (.int .i64 (tzV x))) hs0.drop fun h => aaE.2 rfl⟩
  · replace hs : Sat B w (pcS SR1.kt (.i .u64 x) v :: ([fun _ => False] ++ [F])) := hs
    exact aaM hs.drop
end
section
open Go.RowKit Go.Maps
def atn (x : Int) : List Value := [.int .u64 x]
theorem ayT : (Tryz.prog.info? 48).map (fun i => (i.zero, i.size, i.bytes)) = some (some (.int .u64 0), 1, 8) := by kernel_rfl
set_option maxHeartbeats 2000000 in
theorem att (A : Option Addr) (cap : Nat) (xs : List Int) (w : World) (hx : Sl atn 1 w w.heap.size A xs) (hn : xs.length ≤ 1000000) :
    Calls Tryz.prog 68 #[.slice A xs.length cap] w (aqL atn 1 48 w xs) := by
  cases A with
  | none =>
    have hnil : xs = [] := by
      rcases xs with _ | ⟨x, xs⟩
      · rfl
      · obtain ⟨b, o, e, _⟩ := hx.2 (by simp)
        cases e
    subst hnil
    have q : ∀ (w : World) (a : Option Addr) (n c n' c' : Nat), (binOp .eql 41 (.slice a n c) (.slice none n' c')).run Tryz.prog w = .ok (.bool a.isNone) w := fun w a n c n' c' => Lib.run_eql_slice_nil w _ _ a n c n' c' Tryz.underlying41
    go_enter Tryz.func68, Tryz.ntmps68
    go_wp2
    go_ret
    exact ⟨⟨none, 0, rfl, World.ownsRow_nil _ _ _ _⟩, Below.refl _ _⟩
  | some a =>
    obtain ⟨i0, hi, hz0, hz1, hz2⟩ := info_parts ayT
    have q : ∀ (w : World) (a : Option Addr) (n c n' c' : Nat), (binOp .eql 41 (.slice a n c) (.slice none n' c')).run Tryz.prog w = .ok (.bool a.isNone) w := fun w a n c n' c' => Lib.run_eql_slice_nil w _ _ a n c n' c' Tryz.underlying41
    have hcell := Lib.hid (aqU (sz := 1) (w := w) (B := w.heap.size) (fun _ => rfl) (by decide) hx (Obj.cells #[] 48))
    clear hx
    go_enter Tryz.func68, Tryz.ntmps68
    go_wp2_with (at_builtin; refine wpList_append_own_at _ rfl _ _ 41 rfl w.heap.size 48 i0 (.int .u64 0) 1 8 Tryz.underlying41 hi hz0 hz1 hz2 rfl (by decide) _ _ _ rfl (World.ownsRow_made w #[] 0 (Nat.le_refl _) (Nat.zero_le _) rfl) a xs.length cap (xs.flatMap atn) rfl ?qc0 ?qc1 ?qc2 ?qc3 ?qc4 ?qc5 ?_)
    case qc0 => exact ahJ (enc := atn) (sz := 1) (fun _ => rfl) xs
    case qc1 => exact hcell.out
    case qc2 => intro u hu; rw [List.mem_flatMap] at hu; obtain ⟨x, _, hu⟩ := hu; simp [atn] at hu; subst hu; rfl
    case qc3 => unfold maxLen; omega
    case qc4 => omega
    case qc5 => simp
    intro v' w1 hown hgrow _ _
    obtain ⟨A', c', hv⟩ := aly hown
    subst hv
    clear hcell
    go_wp2
    go_ret
    exact ⟨⟨A', c', by simp, by simpa using hown⟩, ((Below.refl _ w).alloc (Nat.le_refl _) _).grown hgrow (by simp) (by intro k hk; simp [Value.ownBlock] at hk; omega)⟩
end
section
open Go Go.RowKit
variable [Tb]
noncomputable def ame (l : List Int) : Option ((List Int × Unit) × (List Int × Unit)) := if l.length ≤ 1000000 then some ((l, ()), (l, ())) else none
noncomputable abbrev aqD : Con SR1 := ⟨68, [.lent 0], [.sh (.row 0)], fun x => ame x.1⟩
theorem axt {B : Nat} {w : World} {c : Nat} {xs : List (SR1.T c)} {v : Value} {F : aad} (s : Sat B w [pcS SR1.kt (.row c xs) v, F]) : ∃ A cap, v = .slice A xs.length cap ∧ Sat B w (rwS SR1.kt c xs A cap :: [F]) := by
  obtain ⟨hh, Hh, k1, k2, ka, ke, h1, hF⟩ := s
  rw [aaE] at h1
  obtain ⟨A, cap, e, hr⟩ := h1
  exact ⟨A, cap, e, hh, Hh, k1, k2, ka, ke, hr, hF⟩
theorem aDJ {f : FuncId} (hf : Nat.blt f agl = true) {c sz : Nat} {el : TypeId} (hp : ∀ x, at3 (SR1.kt.vw c x) = true) (hpl : SR1.kt.pl c = true) (hz : 0 < SR1.kt.sz c) (hsz : SR1.kt.sz c = sz) {spec : List (SR1.T c) → Option ((List (SR1.T c) × Unit) × (List (SR1.T c) × Unit))} (hspec : ∀ l o, spec l = some o → o = ((l, ()), (l, ())) ∧ l.length ≤ 1000000)
    (h : ∀ (A : Option Addr) (cap : Nat) (xs : List (SR1.T c)) (w : World), Sl (aeR SR1.kt c) sz w w.heap.size A xs → xs.length ≤ 1000000 → Calls Tryz.prog f #[.slice A xs.length cap] w (aqL (aeR SR1.kt c) sz el w xs)) :
    CO Tryz.prog ⟨f, [.lent c], [.sh (.row c)], fun x => spec x.1⟩ := fun x out hx B W hg vs F w hw => by
  obtain ⟨hb, hB, hs⟩ := hw
  obtain ⟨ho, hl⟩ := hspec x.1 out hx
  subst ho
  show afO Tryz.prog f _ w _
  rw [adQ hf]
  rcases vs with _ | ⟨v, _ | ⟨v2, vs⟩⟩
  · exact aaM hs
  · replace hs : Sat B w [pcS SR1.kt (.row c x.1) v, F] := hs
    obtain ⟨A, cap, rfl, s1⟩ := axt hs
    have hsl := (asH (au9 hpl hz s1) List.mem_cons_self).1
    rw [hsz] at hsl
    refine (h A cap x.1 w hsl hl).mono fun e w' ⟨⟨A', c', he, hown⟩, hb'⟩ => ⟨[.slice A' (List.length x.1) c'], he, hb.trans (hb'.mono hB), Nat.le_trans hB hb'.size, ?_⟩
    have s2 := akP hs hb' hB hown
    rw [← hsz] at s2
    exact alk hp s2
  · replace hs : Sat B w (pcS SR1.kt (.row c x.1) v :: ([fun _ => False] ++ [F])) := hs
    exact aaM hs.drop
theorem auH : CO Tryz.prog aqD := aDJ rfl (c := 0) (sz := 1) (fun _ => rfl) rfl (by decide) rfl (spec := ame) (fun l o h => by
  unfold ame at h
  split at h
  · rename_i hl; cases h; exact ⟨rfl, hl⟩
  · cases h) fun A cap xs w hx hn => att A cap xs w hx hn
end
end Go.Proofs.YteapeojalliebaaGreat
