/- From the readings of the arguments to our words: bytes, ints. The table that words.Low looks at lies in block 0 of every world that fits: 64 bytes, whatever they are. What is needed of a configuration's types. Walks: slices.Clone at the slices of a configuration. slices.Clone at the slices of a configuration, in the evaluator's words. Walks: the checks of a configuration (config and its reference), function by function. Walks: the checks of a configuration's programs and submissions (config). The check of a configuration, in the evaluator's words. What it means that an answer is there; numbers; loops. Walks: park.Asleep. park.Asleep in the evaluator's form. bits.TrailingZeros64 over any table. Walks: slices.Clone at the rows of an environment. slices.Clone at the rows of an environment, in the evaluator's words. -/
import Derived.Test.YtlcelajkhklkbaaGreatRcai
import Derived.HandedShaped
import Derived.Test.YtlcelajkhklkbaaGreatRows
import Derived.Test.YtlcelajkhklkbaaGreatRcaa
import Derived.Laws.AppendOwn
import Derived.Lib.SliceRun
import Derived.WalkKit
set_option linter.all false
namespace Go.Proofs.YtlcelajkhklkbaaGreat
section
open Go.ChangeShapes Go.WideShapes Go.RowKit Go.Deep
set_option maxRecDepth 100000
theorem as9 : Tryz.prog.cellsOf 3 = 1 := by kernel_rfl
theorem ary : Tryz.prog.cellsOf 5 = 1 := by kernel_rfl
theorem avG {z : Int} (h : (Lit.int .i64 z).wf = true) : -9223372036854775808 ≤ z ∧ z ≤ 9223372036854775807 := by
  simp [Lit.wf, IntKind.min, IntKind.max, IntKind.bits, IntKind.signed] at h
  omega
section
variable {H : Type} {enc : TypeId × Value → H} {w : World} {base : Nat} {spare : Nat → Bool} {held : Bool}
theorem asM (n : Nat) (cs : List Value) (d : DataW H × List MemPlace) (h : DataW.trod enc Tryz.prog w base spare held n 3 cs = some d) (_ : cs.length = 1) : ∃ y : Int, (-9223372036854775808 ≤ y ∧ y ≤ 9223372036854775807) ∧ cs = ac5 SR1.kt 1 y := by
  obtain ⟨z, hz, _, hw⟩ := DataW.trod_int Tryz.underlying3 h
  exact ⟨z, avG hw, hz⟩
theorem arB (n : Nat) (cs : List Value) (d : DataW H × List MemPlace) (h : DataW.trod enc Tryz.prog w base spare held n 5 cs = some d) (_ : cs.length = 1) : ∃ y : Int, (0 ≤ y ∧ y ≤ 255) ∧ cs = ac5 SR1.kt 17 y := by
  obtain ⟨z, hz, _, hw⟩ := DataW.trod_int Tryz.underlying5 h
  simp [Lit.wf, IntKind.min, IntKind.max, IntKind.bits, IntKind.signed] at hw
  exact ⟨z, by omega, hz⟩
theorem amp {t e : TypeId} {r : Reach} {b0 : Nat} {v : Value} {A : Option Addr} {n cap : Nat} (ht : Tryz.prog.underlying t = some (.slice e)) (hv : Value.okWide Tryz.prog w r b0 t v) (h1 : v.cells.toList = [.slice A n cap]) : v = .slice A n cap := by
  obtain ⟨a, len, c, rfl⟩ := okWide_slice ht hv
  simp [Value.cells] at h1
  rw [h1.1, h1.2.1, h1.2.2]
theorem avU {c : Nat} {l : List (SR1.T c)} {v : Value} {A : Option Addr} {cap : Nat} {L : List aaf} (hz : 0 < SR1.kt.sz c) (henc : ∀ x, (ac5 SR1.kt c x).length = SR1.kt.sz c) (hv : v = .slice A l.length cap) (hS : Sl (ac5 SR1.kt c) (SR1.kt.sz c) w w.heap.size A l) (hc : l.length ≤ cap) (s : Sat w.heap.size w L) : Sat w.heap.size w (pcS SR1.kt (.ro c l) v :: L) :=
  aaQ (fun h hr => ⟨0, A, cap, hv, hr⟩) (avN hz henc hS hc s)
theorem ata {v : Value} {d : DataW H} {p : List MemPlace} {r : Reach} {b0 : Nat} (hv : Value.okWide Tryz.prog w r b0 22 v) (h : DataW.Trod enc Tryz.prog w base spare held 22 v d p) : ∃ l : List Int, (∀ x ∈ l, 0 ≤ x ∧ x ≤ 255) ∧ ∀ {L}, Sat w.heap.size w L → Sat w.heap.size w (pcS SR1.kt (.ro 17 l) v :: L) := by
  obtain ⟨fuel, hf⟩ := h
  obtain ⟨A, cap, xs, h1, h2, h3, h4⟩ := ap7 Tryz.underlying22 ary (by decide) arB hf
  exact ⟨xs, h3, fun s => avU (c := 17) (by decide) (fun _ => rfl) (amp Tryz.underlying22 hv h1) h2 h4 s⟩
theorem auR {v : Value} {d : DataW H} {p : List MemPlace} {r : Reach} {b0 : Nat} (hv : Value.okWide Tryz.prog w r b0 23 v) (h : DataW.Trod enc Tryz.prog w base spare held 23 v d p) : ∃ l : List Int, (∀ x ∈ l, -9223372036854775808 ≤ x ∧ x ≤ 9223372036854775807) ∧ ∀ {L}, Sat w.heap.size w L → Sat w.heap.size w (pcS SR1.kt (.ro 1 l) v :: L) := by
  obtain ⟨fuel, hf⟩ := h
  obtain ⟨A, cap, xs, h1, h2, h3, h4⟩ := ap7 Tryz.underlying23 as9 (by decide) asM hf
  exact ⟨xs, h3, fun s => avU (c := 1) (by decide) (fun _ => rfl) (amp Tryz.underlying23 hv h1) h2 h4 s⟩
end
theorem aqW [Tb] {f : FuncId} {ps : List Pk} {spec : akB SR1 ps → Option (akD SR1 [.sh .b] × aiG SR1 ps)} {P : Program} (hf : Nat.blt f aee = true) (h : arT SR1 P f ps [.sh .b] spec) {x : akB SR1 ps} {o : aiG SR1 ps} (hx : spec x = some ((true, ()), o)) {vs : List Value} {w : World} (hg : avy w.heap.size w) (s : Sat w.heap.size w (akC SR1 ps x vs ++ [fun _ => True])) :
    Calls P f vs.toArray w fun e w' => e = .returned (.bool true) ∧ Below w.heap.size w w' := by
  have h0 := h x _ hx w.heap.size w hg vs (fun _ => True) w ⟨Below.refl _ _, Nat.le_refl _, s⟩
  rw [acC hf] at h0
  refine h0.mono fun e w' ⟨us, he, hb, _, s'⟩ => ?_
  rcases us with _ | ⟨u, _ | ⟨u2, us⟩⟩
  · exact aaD s'
  · have s2 : Sat w.heap.size w' (ai1 (u = .bool true) :: _) := aaQ (ahx (f := .b true) (fun _ h => h) fun _ _ h => h) s'
    obtain ⟨_, _, _, _, _, _, h1, _⟩ := s2
    subst h1
    exact ⟨he, hb⟩
  · exact aaD s'.drop
end
section
open Go
set_option maxRecDepth 100000
def aq4 (P : Program) : Bool := match ((begin P (fun _ _ => 0) default).world.heap[0]?).bind Obj.row? with
  | none => false
  | some (z, t) => Nat.beq z.size 64 && P.buildable t && (match P.cellTypes P.depth t with
    | none => false
    | some ts => ts.all fun u => match P.underlying u with
      | some (.int .u8) => true
      | _ => false)
theorem aq3 : aq4 Tryz.prog = true := by kernel_rfl
theorem auU {P : Program} {w : World} (ht : aq4 P = true) (hp : 0 < P.globals.size) (h : w.ShapedOpen P) : ∃ T : Tb, avy w.heap.size w := by
  unfold aq4 at ht
  split at ht
  · cases ht
  rename_i z t h0
  split at ht
  · simp at ht
  rename_i ts hts
  simp only [Bool.and_eq_true, List.all_eq_true] at ht
  obtain ⟨⟨hz, hb⟩, ha⟩ := ht
  have hz : z.size = 64 := Nat.eq_of_beq_eq_true hz
  obtain ⟨cs, hh, hs, hr⟩ := h.1 0 z t hp h0
  obtain ⟨ts', hts', _, hall⟩ := hr hb
  rw [hts] at hts'
  cases hts'
  have hc : ∀ i : Nat, i < 64 → ∃ n : Int, (0 ≤ n ∧ n ≤ 255) ∧ w.cell? ⟨0, i, none⟩ = some (.int .u8 n) := fun i hi => by
    have h1 : i < cs.size := by omega
    obtain ⟨u, hu, hok⟩ := hall i cs[i] (by simp [h1])
    have hm := ha u (List.mem_of_getElem? hu)
    have hcell : w.cell? ⟨0, i, none⟩ = some cs[i] := by simp [World.cell?, hh, h1]
    rw [hcell]
    unfold Cell.ok at hok
    split at hm
    · rename_i hu8
      rw [hu8] at hok
      cases hv : cs[i] <;> rw [hv] at hok <;> simp at hok
      case int k' n =>
        obtain ⟨rfl, hn⟩ := hok
        have hn : IntKind.u8.min ≤ n ∧ n ≤ IntKind.u8.max := hn
        simp [IntKind.min, IntKind.max, IntKind.bits, IntKind.signed] at hn
        exact ⟨n, by omega, rfl⟩
    · cases hm
  have hpos : 0 < w.heap.size := by
    rcases Nat.eq_zero_or_pos w.heap.size with e | e
    · rw [Array.getElem?_eq_none (by omega)] at hh; cases hh
    · exact e
  classical
  refine ⟨⟨fun i => if hi : i < 64 then (hc i hi).choose else 0, fun i => ?_⟩, hpos, fun i hi => ?_⟩
  · split
    · rename_i hi; exact (hc i hi).choose_spec.1
    · omega
  · show w.cell? _ = some (.int .u8 (if hi : i < 64 then (hc i hi).choose else 0))
    rw [dif_pos hi]
    exact (hc i hi).choose_spec.2
end
section
open Go.RowKit
def ai9 (x : Option Addr × Nat × Nat) : List Value := [.slice x.1 x.2.1 x.2.2]
theorem ajy {w : World} {base : Nat} {e : TypeId} {size : Nat} {v : Value} {n : Nat} {xs : List Value} (h : w.ownsRow base e size v n xs) : ∃ A cap, v = .slice A n cap := by
  rcases h.2 with ⟨rfl, rfl⟩ | ⟨g, cap, cur, rfl, _⟩
  · exact ⟨_, _, rfl⟩
  · exact ⟨_, _, rfl⟩
theorem auS : (Tryz.prog.info? 27).map (fun i => (i.zero, i.size, i.bytes)) = some (some (.agg #[.int .i64 0, .int .i64 0, .int .i64 0]), 3, 24) := by kernel_rfl
theorem atR : (Tryz.prog.info? 64).map (fun i => (i.zero, i.size, i.bytes)) = some (some (.agg #[.int .i64 0, .int .i64 0, .int .i64 0]), 3, 24) := by kernel_rfl
theorem aul : (Tryz.prog.info? 24).map (fun i => (i.zero, i.size, i.bytes)) = some (some (.slice none 0 0), 1, 24) := by kernel_rfl
theorem am2 {α : Type} {enc : α → List Value} {sz : Nat} (henc : ∀ x, (enc x).length = sz) : ∀ (xs : List α) (i : Nat) (x : α), xs[i]? = some x → ∀ (j : Nat) u, (enc x)[j]? = some u → (xs.flatMap enc)[i * sz + j]? = some u
  | [], _, _, h, _, _, _ => by simp at h
  | y :: ys, 0, x, h, j, u, hu => by
    simp at h; subst h
    have hj : j < (enc y).length := by
      rcases Nat.lt_or_ge j (enc y).length with h | h
      · exact h
      · rw [List.getElem?_eq_none h] at hu; cases hu
    rw [List.flatMap_cons, Nat.zero_mul, Nat.zero_add, List.getElem?_append_left hj]; exact hu
  | y :: ys, i + 1, x, h, j, u, hu => by
    simp at h
    rw [List.flatMap_cons, List.getElem?_append_right (by rw [henc, Nat.succ_mul]; omega), henc, show (i + 1) * sz + j - sz = i * sz + j from by rw [Nat.succ_mul]; omega]
    exact am2 henc ys i x h j u hu
end
section
open Go.RowKit Go.Maps
def apn {α : Type} (enc : α → List Value) (sz : Nat) (el : TypeId) (w : World) (xs : List α) (e : Ending) (w' : World) : Prop :=
  (∃ A' c', e = .returned (.slice A' xs.length c') ∧ w'.ownsRow w.heap.size el sz (.slice A' xs.length c') xs.length (xs.flatMap enc)) ∧ Below w.heap.size w w'
theorem agf {α : Type} {enc : α → List Value} {sz : Nat} (henc : ∀ x, (enc x).length = sz) : ∀ xs : List α, (xs.flatMap enc).length = xs.length * sz
  | [] => by simp
  | x :: xs => by rw [List.flatMap_cons, List.length_append, agf henc xs, henc, List.length_cons, Nat.succ_mul, Nat.add_comm]
theorem anx {α : Type} {enc : α → List Value} {sz : Nat} (henc : ∀ x, (enc x).length = sz) (hsz : 0 < sz) {w : World} {B : Nat} {a : Addr} {xs : List α} (hx : Sl enc sz w B (some a) xs) (ob : Obj) :
    ∀ j u, (xs.flatMap enc)[j]? = some u → (w.alloc ob).cell? (a.add j) = some u := by
  intro j u hj
  have hjl : j < (xs.flatMap enc).length := (List.getElem?_eq_some_iff.1 hj).1
  have hne : xs ≠ [] := by intro e; subst e; simp at hjl
  obtain ⟨b, o, e, hb, hc⟩ := hx.2 hne
  injection e with e
  subst e
  have hA : (⟨b, o, none⟩ : Addr).add j = ⟨b, o + j, none⟩ := by unfold Addr.add; split <;> simp_all
  rw [hA]
  refine Lib.cell?_alloc_some _ ?_
  rw [agf henc] at hjl
  have hi : j / sz < xs.length := (Nat.div_lt_iff_lt_mul hsz).2 hjl
  have hm : j % sz < (enc xs[j / sz]).length := by rw [henc]; exact Nat.mod_lt _ hsz
  have hg := am2 (enc := enc) (sz := sz) henc xs (j / sz) xs[j / sz] (List.getElem?_eq_getElem hi) (j % sz) _ (List.getElem?_eq_getElem hm)
  have hjj : j / sz * sz + j % sz = j := by rw [Nat.mul_comm]; exact Nat.div_add_mod _ _
  rw [hjj, hj] at hg
  injection hg with hg
  have hc' := hc (j / sz) _ (List.getElem?_eq_getElem hi) (j % sz) _ (List.getElem?_eq_getElem hm)
  rw [hg]
  rw [Nat.add_assoc, hjj] at hc'
  exact hc'
set_option maxHeartbeats 2000000 in
theorem ana (A : Option Addr) (cap : Nat) (xs : List Ins) (w : World) (hx : Sl Ins.enc 3 w w.heap.size A xs) (hn : xs.length ≤ 1000000) :
    Calls Tryz.prog 63 #[.slice A xs.length cap] w (apn Ins.enc 3 27 w xs) := by
  cases A with
  | none =>
    have hnil : xs = [] := by
      rcases xs with _ | ⟨x, xs⟩
      · rfl
      · obtain ⟨b, o, e, _⟩ := hx.2 (by simp)
        cases e
    subst hnil
    have q : ∀ (w : World) (a : Option Addr) (n c n' c' : Nat), (binOp .eql 24 (.slice a n c) (.slice none n' c')).run Tryz.prog w = .ok (.bool a.isNone) w := fun w a n c n' c' => Lib.run_eql_slice_nil w _ _ a n c n' c' Tryz.underlying24
    go_enter Tryz.func63, Tryz.ntmps63
    go_wp2
    go_ret
    exact ⟨⟨none, 0, rfl, World.ownsRow_nil _ _ _ _⟩, Below.refl _ _⟩
  | some a =>
    obtain ⟨i0, hi, hz0, hz1, hz2⟩ := info_parts auS
    have q : ∀ (w : World) (a : Option Addr) (n c n' c' : Nat), (binOp .eql 24 (.slice a n c) (.slice none n' c')).run Tryz.prog w = .ok (.bool a.isNone) w := fun w a n c n' c' => Lib.run_eql_slice_nil w _ _ a n c n' c' Tryz.underlying24
    have hcell := Lib.hid (anx (sz := 3) (w := w) (B := w.heap.size) (fun _ => rfl) (by decide) hx (Obj.cells #[] 27))
    clear hx
    go_enter Tryz.func63, Tryz.ntmps63
    go_wp2_with (at_builtin; refine wpList_append_own_at _ rfl _ _ 24 rfl w.heap.size 27 i0 (.agg #[.int .i64 0, .int .i64 0, .int .i64 0]) 3 24 Tryz.underlying24 hi hz0 hz1 hz2 rfl (by decide) _ _ _ rfl (World.ownsRow_made w #[] 0 (Nat.le_refl _) (Nat.zero_le _) rfl) a xs.length cap (xs.flatMap Ins.enc) rfl ?qc0 ?qc1 ?qc2 ?qc3 ?qc4 ?qc5 ?_)
    case qc0 => exact agf (enc := Ins.enc) (sz := 3) (fun _ => rfl) xs
    case qc1 => exact hcell.out
    case qc2 => intro u hu; rw [List.mem_flatMap] at hu; obtain ⟨x, _, hu⟩ := hu; simp [Ins.enc] at hu; rcases hu with rfl | rfl | rfl <;> rfl
    case qc3 => unfold maxLen; omega
    case qc4 => omega
    case qc5 => simp
    intro v' w1 hown hgrow _ _
    obtain ⟨A', c', hv⟩ := ajy hown
    subst hv
    clear hcell
    go_wp2
    go_ret
    exact ⟨⟨A', c', by simp, by simpa using hown⟩, ((Below.refl _ w).alloc (Nat.le_refl _) _).grown hgrow (by simp) (by intro k hk; simp [Value.ownBlock] at hk; omega)⟩
set_option maxHeartbeats 2000000 in
theorem al2 (A : Option Addr) (cap : Nat) (xs : List (Option Addr × Nat × Nat)) (w : World) (hx : Sl ai9 1 w w.heap.size A xs) (hn : xs.length ≤ 1000000) :
    Calls Tryz.prog 62 #[.slice A xs.length cap] w (apn ai9 1 24 w xs) := by
  cases A with
  | none =>
    have hnil : xs = [] := by
      rcases xs with _ | ⟨x, xs⟩
      · rfl
      · obtain ⟨b, o, e, _⟩ := hx.2 (by simp)
        cases e
    subst hnil
    have q : ∀ (w : World) (a : Option Addr) (n c n' c' : Nat), (binOp .eql 28 (.slice a n c) (.slice none n' c')).run Tryz.prog w = .ok (.bool a.isNone) w := fun w a n c n' c' => Lib.run_eql_slice_nil w _ _ a n c n' c' Tryz.underlying28
    go_enter Tryz.func62, Tryz.ntmps62
    go_wp2
    go_ret
    exact ⟨⟨none, 0, rfl, World.ownsRow_nil _ _ _ _⟩, Below.refl _ _⟩
  | some a =>
    obtain ⟨i0, hi, hz0, hz1, hz2⟩ := info_parts aul
    have q : ∀ (w : World) (a : Option Addr) (n c n' c' : Nat), (binOp .eql 28 (.slice a n c) (.slice none n' c')).run Tryz.prog w = .ok (.bool a.isNone) w := fun w a n c n' c' => Lib.run_eql_slice_nil w _ _ a n c n' c' Tryz.underlying28
    have hcell := Lib.hid (anx (sz := 1) (w := w) (B := w.heap.size) (fun _ => rfl) (by decide) hx (Obj.cells #[] 24))
    clear hx
    go_enter Tryz.func62, Tryz.ntmps62
    go_wp2_with (at_builtin; refine wpList_append_own_at _ rfl _ _ 28 rfl w.heap.size 24 i0 (.slice none 0 0) 1 24 Tryz.underlying28 hi hz0 hz1 hz2 rfl (by decide) _ _ _ rfl (World.ownsRow_made w #[] 0 (Nat.le_refl _) (Nat.zero_le _) rfl) a xs.length cap (xs.flatMap ai9) rfl ?qc0 ?qc1 ?qc2 ?qc3 ?qc4 ?qc5 ?_)
    case qc0 => exact agf (enc := ai9) (sz := 1) (fun _ => rfl) xs
    case qc1 => exact hcell.out
    case qc2 => intro u hu; rw [List.mem_flatMap] at hu; obtain ⟨x, _, hu⟩ := hu; simp [ai9] at hu; rcases hu with rfl; rfl
    case qc3 => unfold maxLen; omega
    case qc4 => omega
    case qc5 => simp
    intro v' w1 hown hgrow _ _
    obtain ⟨A', c', hv⟩ := ajy hown
    subst hv
    clear hcell
    go_wp2
    go_ret
    exact ⟨⟨A', c', by simp, by simpa using hown⟩, ((Below.refl _ w).alloc (Nat.le_refl _) _).grown hgrow (by simp) (by intro k hk; simp [Value.ownBlock] at hk; omega)⟩
set_option maxHeartbeats 2000000 in
theorem al0 (A : Option Addr) (cap : Nat) (xs : List Sub) (w : World) (hx : Sl Sub.enc 3 w w.heap.size A xs) (hn : xs.length ≤ 1000000) :
    Calls Tryz.prog 64 #[.slice A xs.length cap] w (apn Sub.enc 3 64 w xs) := by
  cases A with
  | none =>
    have hnil : xs = [] := by
      rcases xs with _ | ⟨x, xs⟩
      · rfl
      · obtain ⟨b, o, e, _⟩ := hx.2 (by simp)
        cases e
    subst hnil
    have q : ∀ (w : World) (a : Option Addr) (n c n' c' : Nat), (binOp .eql 29 (.slice a n c) (.slice none n' c')).run Tryz.prog w = .ok (.bool a.isNone) w := fun w a n c n' c' => Lib.run_eql_slice_nil w _ _ a n c n' c' Tryz.underlying29
    go_enter Tryz.func64, Tryz.ntmps64
    go_wp2
    go_ret
    exact ⟨⟨none, 0, rfl, World.ownsRow_nil _ _ _ _⟩, Below.refl _ _⟩
  | some a =>
    obtain ⟨i0, hi, hz0, hz1, hz2⟩ := info_parts atR
    have q : ∀ (w : World) (a : Option Addr) (n c n' c' : Nat), (binOp .eql 29 (.slice a n c) (.slice none n' c')).run Tryz.prog w = .ok (.bool a.isNone) w := fun w a n c n' c' => Lib.run_eql_slice_nil w _ _ a n c n' c' Tryz.underlying29
    have hcell := Lib.hid (anx (sz := 3) (w := w) (B := w.heap.size) (fun _ => rfl) (by decide) hx (Obj.cells #[] 64))
    clear hx
    go_enter Tryz.func64, Tryz.ntmps64
    go_wp2_with (at_builtin; refine wpList_append_own_at _ rfl _ _ 29 rfl w.heap.size 64 i0 (.agg #[.int .i64 0, .int .i64 0, .int .i64 0]) 3 24 Tryz.underlying29 hi hz0 hz1 hz2 rfl (by decide) _ _ _ rfl (World.ownsRow_made w #[] 0 (Nat.le_refl _) (Nat.zero_le _) rfl) a xs.length cap (xs.flatMap Sub.enc) rfl ?qc0 ?qc1 ?qc2 ?qc3 ?qc4 ?qc5 ?_)
    case qc0 => exact agf (enc := Sub.enc) (sz := 3) (fun _ => rfl) xs
    case qc1 => exact hcell.out
    case qc2 => intro u hu; rw [List.mem_flatMap] at hu; obtain ⟨x, _, hu⟩ := hu; simp [Sub.enc] at hu; rcases hu with rfl | rfl | rfl <;> rfl
    case qc3 => unfold maxLen; omega
    case qc4 => omega
    case qc5 => simp
    intro v' w1 hown hgrow _ _
    obtain ⟨A', c', hv⟩ := ajy hown
    subst hv
    clear hcell
    go_wp2
    go_ret
    exact ⟨⟨A', c', by simp, by simpa using hown⟩, ((Below.refl _ w).alloc (Nat.le_refl _) _).grown hgrow (by simp) (by intro k hk; simp [Value.ownBlock] at hk; omega)⟩
end
section
open Go Go.RowKit
variable [Tb]
noncomputable def agG (l : List Ins) : Option ((List Ins × Unit) × Unit) := if l.length ≤ 1000000 then some ((l, ()), ()) else none
noncomputable abbrev ak9 : Con SR1 := ⟨63, [.sh (.ro 3)], [.sh (.row 3)], fun x => agG x.1⟩
noncomputable def ae0 (l : List Sub) : Option ((List Sub × Unit) × Unit) := if l.length ≤ 1000000 then some ((l, ()), ()) else none
noncomputable abbrev ako : Con SR1 := ⟨64, [.sh (.ro 4)], [.sh (.row 4)], fun x => ae0 x.1⟩
theorem apd {f : FuncId} (hf : Nat.blt f aee = true) {c sz : Nat} {el : TypeId} (hp : ∀ x, apA (SR1.kt.vw c x) = true) (hsz : SR1.kt.sz c = sz) {spec : List (SR1.T c) → Option ((List (SR1.T c) × Unit) × Unit)} (hspec : ∀ l o, spec l = some o → o = ((l, ()), ()) ∧ l.length ≤ 1000000)
    (h : ∀ (A : Option Addr) (cap : Nat) (xs : List (SR1.T c)) (w : World), Sl (ac5 SR1.kt c) sz w w.heap.size A xs → xs.length ≤ 1000000 → Calls Tryz.prog f #[.slice A xs.length cap] w (apn (ac5 SR1.kt c) sz el w xs)) :
    CO Tryz.prog ⟨f, [.sh (.ro c)], [.sh (.row c)], fun x => spec x.1⟩ := fun x out hx B W hg vs F w hw => by
  obtain ⟨hb, hB, hs⟩ := hw
  obtain ⟨ho, hl⟩ := hspec x.1 out hx
  subst ho
  show adP Tryz.prog f _ w _
  rw [acC hf]
  rcases vs with _ | ⟨v, _ | ⟨v2, vs⟩⟩
  · exact aaD hs
  · replace hs : Sat B w [pcS SR1.kt (.ro c x.1) v, F] := hs
    obtain ⟨A, cap, rfl, hsl⟩ := ati hs
    have s1 := hs.drop
    rw [hsz] at hsl
    refine (h A cap x.1 w hsl hl).mono fun e w' ⟨⟨A', c', he, hown⟩, hb'⟩ => ⟨[.slice A' (List.length x.1) c'], he, hb.trans (hb'.mono hB), Nat.le_trans hB hb'.size, ?_⟩
    have s2 := ajw s1 hb' hB hown
    rw [← hsz] at s2
    exact alr hp s2
  · replace hs : Sat B w (pcS SR1.kt (.ro c x.1) v :: ([fun _ => False] ++ [F])) := hs
    exact aaD hs.drop
theorem aoh : CO Tryz.prog ak9 := apd rfl (c := 3) (sz := 3) (fun _ => rfl) rfl (spec := agG) (fun l o h => by
  unfold agG at h
  split at h
  · rename_i hl; cases h; exact ⟨rfl, hl⟩
  · cases h) fun A cap xs w hx hn => ana A cap xs w hx hn
theorem am8 : CO Tryz.prog ako := apd rfl (c := 4) (sz := 3) (fun _ => rfl) rfl (spec := ae0) (fun l o h => by
  unfold ae0 at h
  split at h
  · rename_i hl; cases h; exact ⟨rfl, hl⟩
  · cases h) fun A cap xs w hx hn => al0 A cap xs w hx hn
noncomputable def ae1 (l : List (List Ins)) : Option ((List (List Ins) × Unit) × Unit) := if l.length ≤ 1000000 then some ((l, ()), ()) else none
noncomputable abbrev afs : Con SR1 := ⟨62, [.sh (.rr 3)], [.sh (.row 18)], fun x => ae1 x.1⟩
def arX (xss : List (List Ins)) (ps : List (Option Addr × Nat)) : List (Option Addr × Nat × Nat) := List.zipWith (fun xs a => (a.1, xs.length, a.2)) xss ps
theorem amV {Φ : World → Prop} {L : List aaf} : ∀ (xss : List (List Ins)) (ps : List (Option Addr × Nat)), xss.length = ps.length → (∀ u, Φ u → ∀ (i : Nat) xs a, xss[i]? = some xs → ps[i]? = some a → Sl (ac5 SR1.kt 3) 3 u u.heap.size a.1 xs ∧ xs.length ≤ a.2) →
    Ent (ac4 Φ :: L) (abl SR1.kt (pcS SR1.kt) 18 xss ((arX xss ps).map ai9) ++ ac4 Φ :: L)
  | [], [], _, _ => Ent.refl
  | [], _ :: _, h, _ => by cases h
  | _ :: _, [], h, _ => by cases h
  | xs :: xss, a :: ps, hl, hΦ => by
    have ih := amV (Φ := Φ) (L := L) xss ps (by simpa using hl) fun u hu i ys b h1 h2 => hΦ u hu (i + 1) ys b h1 h2
    refine ahP.trans (fun h hs => ?_)
    have h1 := aaU (A := ac4 Φ) ih hs
    refine aaz (A' := pcS SR1.kt (.ro 3 xs) (.slice a.1 xs.length a.2)) (fun k hk => ?_) h1
    refine aaB.2 (show pcW SR1.kt (obS SR1.kt) (rwS SR1.kt) (.ro 3 xs) (.slice a.1 xs.length a.2) k from ⟨a.1, a.2, rfl, ?_⟩)
    exact ach (fun u hu => hΦ u hu 0 xs a rfl rfl) _ hk
theorem asj {B : Nat} {w : World} {A R F : aaf} {N : List aaf} (s : Sat B w (N ++ A :: [R, F])) : Sat B w ((R :: N) ++ [A, F]) := s.perm (aao fun f g h1 h2 h3 => by simp only [List.cons_append, h1, h2, h3]; omega)
theorem al1 (xss : List (List Ins)) (hl : xss.length ≤ 1000000) (B : Nat) (W : World) (v : Value) (F : aaf) (w : World) (hw : Cls B W [pcS SR1.kt (.rr 3 xss) v, F] w) :
    Calls Tryz.prog afs.f #[v] w fun e w' => ∃ u, e = .returned u ∧ Cls B W [pcS SR1.kt (.row 18 xss) u, F] w' := by
  obtain ⟨hb, hB, hs⟩ := hw
  have s1 : Sat B w ((fun h => ∃ A cap, v = .slice A xss.length cap ∧ rrS (ac5 SR1.kt 3) (SR1.kt.sz 3) A cap xss h) :: [F]) := aaQ (ahx (S := SR1) (f := .rr 3 xss) (fun _ h => h) fun _ _ h => h) hs
  obtain ⟨h, H, k1, k2, a, e, ⟨A, cap, rfl, ps0, h1⟩, h2⟩ := s1
  have s2 : Sat B w (ac4 _ :: [F]) := ⟨h, H, k1, k2, a, e, h1, h2⟩
  have h3 := ahO s2 List.mem_cons_self
  have hps : xss.length ≤ ps0.length := by
    rcases Nat.eq_zero_or_pos xss.length with h0 | h0
    · omega
    · obtain ⟨a, ha, _⟩ := h3.2 (xss.length - 1) _ (List.getElem?_eq_getElem (Nat.sub_lt h0 Nat.one_pos))
      have := (List.getElem?_eq_some_iff.1 ha).1
      omega
  obtain ⟨ps, hpe⟩ : ∃ ps, ps = ps0.take xss.length := ⟨_, rfl⟩
  have hpl : xss.length = ps.length := by rw [hpe, List.length_take]; omega
  have hpg : ∀ (i : Nat) b, ps[i]? = some b → ps0[i]? = some b := fun i b hb => by
    rw [hpe, List.getElem?_take] at hb
    split at hb
    · exact hb
    · cases hb
  have hrl : (arX xss ps).length = xss.length := by unfold arX; rw [List.length_zipWith]; omega
  have hsl : Sl ai9 1 w w.heap.size A (arX xss ps) := by
    refine ⟨by omega, fun hne => ?_⟩
    have hpos : 0 < xss.length := by rw [← hrl]; exact List.length_pos_iff.2 hne
    obtain ⟨a0, _, _, b, o, hA, hlt, _⟩ := h3.2 0 _ (List.getElem?_eq_getElem hpos)
    refine ⟨b, o, hA, hlt, fun i x hi j u hu => ?_⟩
    unfold arX at hi
    rw [List.getElem?_zipWith] at hi
    cases hx : xss[i]? with
    | none => rw [hx] at hi; simp at hi
    | some xs =>
      cases hy : ps[i]? with
      | none => rw [hx, hy] at hi; simp at hi
      | some a =>
        rw [hx, hy] at hi
        obtain rfl := Option.some.inj hi
        obtain ⟨a', ha', _, b', o', hA', _, hc⟩ := h3.2 i xs hx
        rw [hpg i a hy] at ha'
        obtain rfl := Option.some.inj ha'
        rw [hA] at hA'
        cases hA'
        cases j with
        | zero =>
          obtain rfl := Option.some.inj hu
          rw [Nat.mul_one, Nat.add_zero]; exact hc
        | succ j => simp [ai9] at hu
  have hcl := al2 A cap (arX xss ps) w hsl (by omega)
  rw [hrl] at hcl
  refine hcl.mono fun e w' ⟨⟨A', c', he, hown⟩, hb'⟩ => ⟨.slice A' xss.length c', by rw [he, hrl], hb.trans (hb'.mono hB), Nat.le_trans hB hb'.size, ?_⟩
  rw [hrl] at hown
  have s3 := ajw s2 hb' hB hown
  have s4 : Sat B w' (ac4 _ :: [adc A' xss.length c' 1 ((arX xss ps).flatMap ai9), F]) := s3.perm (List.Perm.swap ..)
  have s5 := s4.imp (amV xss ps hpl fun u hu i xs a hx hy => by
    obtain ⟨a', ha', hq, _⟩ := hu.2 i xs hx
    rw [hpg i a hy] at ha'
    obtain rfl := Option.some.inj ha'
    exact hq)
  have s6 := asj s5
  have s7 := aeJ (A := pcS SR1.kt (.row 18 xss) (.slice A' xss.length c')) (fun k hk => aaB.2 (show pcW SR1.kt (obS SR1.kt) (rwS SR1.kt) (.row 18 xss) _ k from ⟨A', c', rfl, abP.2 ⟨(arX xss ps).map ai9, by
    rw [show ((arX xss ps).map ai9).flatten = (arX xss ps).flatMap ai9 from by rw [List.flatMap_def]]
    exact hk⟩⟩)) s6
  exact (s7.perm (List.Perm.swap ..)).drop
theorem am9 : CO Tryz.prog afs := fun x out hx B W hg vs F w hw => by
  obtain ⟨hb, hB, hs⟩ := hw
  replace hx : ae1 x.1 = some out := hx
  unfold ae1 at hx
  split at hx
  · rename_i hl
    cases hx
    show adP Tryz.prog afs.f _ w _
    rw [acC rfl]
    rcases vs with _ | ⟨v, _ | ⟨v2, vs⟩⟩
    · exact aaD hs
    · exact (al1 x.1 hl B W v F w ⟨hb, hB, hs⟩).mono fun e w' ⟨u, he, h⟩ => ⟨[u], he, h⟩
    · replace hs : Sat B w (pcS SR1.kt (.rr 3 x.1) v :: ([fun _ => False] ++ [F])) := hs
      exact aaD hs.drop
  · cases hx
end
section
open Go.RowKit
set_option maxHeartbeats 400000 in
theorem adF (a b c : Int) (w : World) :
    Calls Tryz.prog 96 #[.int .i64 a, .int .i64 b, .int .i64 c] w fun e w' => e = .returned (.bool (inB a b c)) ∧ w = w' := by
  unfold inB
  by_cases h : b ≤ a
  all_goals
    go_enter Tryz.func96, Tryz.ntmps96
    go_wp2
    go_ret
    all_goals (simp [*] <;> omega)
set_option maxHeartbeats 1000000 in
theorem aez (c : Cfg) (l : CfgAt) (w : World) :
    Calls Tryz.prog 80 #[anm c l] w fun e w' => e = .returned (.bool (ahL c)) ∧ Below w.heap.size w w' := by
  unfold anm ahL
  by_cases hl : c.levels < 8
  all_goals
    go_enter Tryz.func80, Tryz.ntmps80
    go_wp2_with (first | (go_at_call 96; refine (adF _ _ _ _).mono ?_; rintro e w' ⟨rfl, rfl⟩))
    all_goals go_ret
    all_goals simp [*]
    all_goals exact (Below.refl _ _).alloc (Nat.le_refl _) _
set_option maxHeartbeats 1000000 in
theorem aiQ (c : Cfg) (l : CfgAt) (x : Ins) (w : World) (h1 : 1 ≤ c.levels) (h2 : c.levels ≤ 64) (hp : c.progs.length ≤ 9223372036854775807) :
    Calls Tryz.prog 97 #[anm c l, .agg #[.int .i64 x.op, .int .i64 x.a, .int .i64 x.b]] w fun e w' => e = .returned (.bool (akb c.levels c.progs.length x)) ∧ Below w.heap.size w w' := by
  unfold anm
  go_enter Tryz.func97, Tryz.ntmps97
  go_wp2_with (first | (go_at_call 96; refine (adF _ _ _ _).mono ?_; rintro e w' ⟨rfl, rfl⟩))
  all_goals go_ret
  all_goals refine ⟨asl (by unfold akb; simp_all), ?_⟩
  all_goals exact ((Below.refl _ _).alloc (Nat.le_refl _) _).alloc (by simp) _
theorem ahw {lv np : Int} {ps : List (List Ins)} {k : Nat} (hk : k < ps.length) (h : aaM lv np (ps.drop k) = aaM lv np ps) (hl : 32 < ps[k].length) : aaM lv np ps = 2 := by
  rw [← h, List.drop_eq_getElem_cons hk]; simp [aaM, hl]
theorem aik {lv np : Int} {ps : List (List Ins)} {k j : Nat} (hk : k < ps.length) (h : aaM lv np (ps.drop k) = aaM lv np ps) (hl : ps[k].length ≤ 32) (hj : j < ps[k].length) (hb : akb lv np ps[k][j] = false) : aaM lv np ps = 1 := by
  rw [← h, List.drop_eq_getElem_cons hk]
  have : ps[k].all (akb lv np) = false := by
    rw [List.all_eq_false]; exact ⟨_, List.getElem_mem hj, by simp [hb]⟩
  simp [aaM, Nat.not_lt.2 hl, this]
theorem ahv {lv np : Int} {ps : List (List Ins)} {k : Nat} (hk : k < ps.length) (h : aaM lv np (ps.drop k) = aaM lv np ps) (hl : ps[k].length ≤ 32) (ha : (ps[k].take ps[k].length).all (akb lv np) = true) : aaM lv np (ps.drop (k + 1)) = aaM lv np ps := by
  rw [← h, List.drop_eq_getElem_cons hk]
  rw [List.take_length] at ha
  simp [aaM, Nat.not_lt.2 hl, ha]
theorem amc {α : Type} {f : α → Bool} {l : List α} {j : Nat} (hj : j < l.length) (h : (l.take j).all f = true) (hf : f l[j] = true) : (l.take (j + 1)).all f = true := by
  rw [List.take_succ_eq_append_getElem hj, List.all_append, h]; simp [hf]
def ayv (lv np : Int) (ps : List (List Ins)) (k : Nat) : Prop := aaM lv np (ps.drop k) = aaM lv np ps
def ayk (lv np : Int) (p : List Ins) (k : Nat) : Prop := (p.take k).all (akb lv np) = true
@[reducible] def arx (c : Cfg) (l : CfgAt) : Obj := .cells #[.int .i64 c.workers, .int .i64 c.levels, .int .i64 c.classes, .int .i64 c.tasks, .int .i64 c.deque, .int .i64 c.heap, .int .i64 c.batch, .int .i64 c.age, .int .i64 c.patience, .slice l.pa c.progs.length l.pc, .slice l.sa c.subs.length l.sc] 31
set_option maxHeartbeats 2000000 in
theorem agj (c : Cfg) (l : CfgAt) (w : World) (h1 : 1 ≤ c.levels) (h2 : c.levels ≤ 64) (hc : ah5 w w.heap.size c l) :
    Calls Tryz.prog 81 #[anm c l] w fun e w' => e = .returned (.int .i64 (abT c)) ∧ Below w.heap.size w w' := by
  have hlen := hc.1.1
  by_cases hp : inB (c.progs.length : Int) 1 32 = true
  · have hfin : abT c = aaM c.levels c.progs.length c.progs := by simp [abT, hp]
    have Hfin := Lib.hid hfin
    clear hfin
    unfold anm
    go_enter Tryz.func81, Tryz.ntmps81
    go_wp2_with (first | (go_at_call 96; refine (adF _ _ _ _).mono ?_; rintro e w' ⟨rfl, rfl⟩))
    go_loopw [15] (fun i wr => ∃ k : Nat, k ≤ c.progs.length ∧ i = .int .i64 k ∧ ayv c.levels c.progs.length c.progs k ∧ Below (w.heap.size + 1) (w.alloc (arx c l)) wr) (fun i _ => c.progs.length - (intOf i).toNat)
    case atStart => exact ⟨0, Nat.zero_le _, rfl, rfl, Below.refl _ _⟩
    case round =>
      obtain ⟨k, hk, rfl, hi, hb⟩ := hrel
      have hB : w.heap.size < wr.heap.size := by have := hb.size; simp at this; omega
      have hbw : Below w.heap.size w wr := ((Below.refl _ _).alloc (Nat.le_refl _) _).trans (hb.mono (by omega))
      by_cases hlt : k < c.progs.length
      · obtain ⟨b, o, hpa, hbb, Ai, ci, hcell, hsl⟩ := hc.1.at_ hlt
        have hln := hsl.len
        obtain ⟨hcs, hfz⟩ := al8 hb
        by_cases hlong : 32 < c.progs[k].length
        · have hres := Lib.hid (ahw hlt hi hlong)
          obtain ⟨pa, pc, sa, sc⟩ := l
          obtain rfl : pa = some ⟨b, o, none⟩ := hpa
          go_wp2
          go_ret
          exact ⟨adH (by rw [Hfin.out, hres.out]), hbw⟩
        · obtain ⟨pa, pc, sa, sc⟩ := l
          obtain rfl : pa = some ⟨b, o, none⟩ := hpa
          go_wp2
          obtain ⟨wo, rfl⟩ : ∃ wo : World, wo = wr := ⟨_, rfl⟩
          clear hcs hfz
          go_loopw [24] (fun i ws => ∃ j : Nat, j ≤ c.progs[k].length ∧ i = .int .i64 j ∧ ayk c.levels c.progs.length c.progs[k] j ∧ Below (w.heap.size + 1) (w.alloc (arx c ⟨some ⟨b, o, none⟩, pc, sa, sc⟩)) ws) (fun i _ => c.progs[k].length - (intOf i).toNat)
          case atStart => exact ⟨0, Nat.zero_le _, rfl, by simp [ayk], hb⟩
          case round =>
            obtain ⟨j, hj, rfl, hq, hb2⟩ := hrel
            have hB2 : w.heap.size < wr.heap.size := by have := hb2.size; simp at this; omega
            have hbw2 : Below w.heap.size w wr := ((Below.refl _ _).alloc (Nat.le_refl _) _).trans (hb2.mono (by omega))
            by_cases hjt : j < c.progs[k].length
            · obtain ⟨b2, o2, hpa2, hbb2, hcc⟩ := hsl.at_ hjt
              obtain rfl : Ai = some ⟨b2, o2, none⟩ := hpa2
              obtain ⟨hcs, hfz⟩ := al8 hb2
              have c0 : w.cell? ⟨b2, o2 + j * 3, none⟩ = some (.int .i64 c.progs[k][j].op) := hcc j hjt 0 _ rfl
              have c1 : w.cell? ⟨b2, o2 + j * 3 + 1, none⟩ = some (.int .i64 c.progs[k][j].a) := hcc j hjt 1 _ rfl
              have c2 : w.cell? ⟨b2, o2 + j * 3 + 2, none⟩ = some (.int .i64 c.progs[k][j].b) := hcc j hjt 2 _ rfl
              by_cases hok : akb c.levels c.progs.length c.progs[k][j] = true
              · go_wp2_with (first | (go_at_call 97; refine (aiQ c ⟨some ⟨b, o, none⟩, pc, sa, sc⟩ c.progs[k][j] _ h1 h2 hlen).mono ?_; rintro e w' ⟨rfl, hbv⟩))
                go_roundw
                case rel => exact ⟨j + 1, by omega, by go_num, amc hjt hq hok, (hb2.alloc (by omega) _).trans (hbv.mono (by simp; omega))⟩
                case measure => simp [intOf]; omega
              · have hok' : akb c.levels c.progs.length c.progs[k][j] = false := by simpa using hok
                clear hok
                have hres := Lib.hid (aik hlt hi (by omega) hjt hok')
                go_wp2_with (first | (go_at_call 97; refine (aiQ c ⟨some ⟨b, o, none⟩, pc, sa, sc⟩ c.progs[k][j] _ h1 h2 hlen).mono ?_; rintro e w' ⟨rfl, hbv⟩))
                go_ret
                exact ⟨adH (by rw [Hfin.out, hres.out]), ((Below.refl _ _).alloc (Nat.le_refl _) _).trans (((hb2.alloc (by omega) _).trans (hbv.mono (by simp; omega))).mono (by omega))⟩
            · obtain ⟨hcs, hfz⟩ := al8 hb2
              go_wp2
              go_roundw
              case rel => exact ⟨k + 1, by omega, by go_num, ahv hlt hi (by omega) (by
                have e : j = c.progs[k].length := by omega
                subst e; exact hq), hb2⟩
              case measure => simp [intOf]; omega
      · go_wp2
        go_ret
        exact ⟨adH (by
          have hi' : aaM c.levels c.progs.length (c.progs.drop k) = aaM c.levels c.progs.length c.progs := hi
          rw [Hfin.out, ← hi', List.drop_eq_nil_of_le (by omega)]; rfl), hbw⟩
  · have hfin : abT c = 2 := by simp [abT, hp]
    have Hfin := Lib.hid hfin
    clear hfin
    unfold anm
    go_enter Tryz.func81, Tryz.ntmps81
    go_wp2_with (first | (go_at_call 96; refine (adF _ _ _ _).mono ?_; rintro e w' ⟨rfl, rfl⟩))
    go_ret
    exact ⟨adH Hfin.out.symm, (Below.refl _ _).alloc (Nat.le_refl _) _⟩
theorem aiW {lv np : Int} {ss : List Sub} {k : Nat} (hk : k < ss.length) (h : acu lv np (ss.drop k) = acu lv np ss) {e : Int} (he : aml lv np ss[k] = e) (hne : e ≠ 0) : acu lv np ss = e := by
  subst he
  rw [← h, List.drop_eq_getElem_cons hk]; simp [acu, hne]
theorem ah7 {lv np : Int} {ss : List Sub} {k : Nat} (hk : k < ss.length) (h : acu lv np (ss.drop k) = acu lv np ss) (he : aml lv np ss[k] = 0) : acu lv np (ss.drop (k + 1)) = acu lv np ss := by
  rw [← h, List.drop_eq_getElem_cons hk]; simp [acu, he]
def ayu (lv np : Int) (ss : List Sub) (k : Nat) : Prop := acu lv np (ss.drop k) = acu lv np ss
set_option maxHeartbeats 2000000 in
theorem aok (c : Cfg) (l : CfgAt) (w : World) (h1 : 1 ≤ c.levels) (h2 : c.levels ≤ 64) (hc : ah5 w w.heap.size c l) :
    Calls Tryz.prog 82 #[anm c l] w fun e w' => e = .returned (.int .i64 (afa c)) ∧ Below w.heap.size w w' := by
  have hlen := hc.1.1
  have hlen2 := hc.2.1
  by_cases hp : 64 < c.subs.length
  · have hfin : afa c = 2 := by simp [afa, hp]
    have Hfin := Lib.hid hfin
    clear hfin
    unfold anm
    go_enter Tryz.func82, Tryz.ntmps82
    go_wp2
    go_ret
    exact ⟨adH Hfin.out.symm, (Below.refl _ _).alloc (Nat.le_refl _) _⟩
  · have hfin : afa c = acu c.levels c.progs.length c.subs := by simp [afa, hp]
    have Hfin := Lib.hid hfin
    clear hfin
    unfold anm
    go_enter Tryz.func82, Tryz.ntmps82
    go_wp2
    go_loopw [12] (fun i wr => ∃ k : Nat, k ≤ c.subs.length ∧ i = .int .i64 k ∧ ayu c.levels c.progs.length c.subs k ∧ Below (w.heap.size + 1) (w.alloc (arx c l)) wr) (fun i _ => c.subs.length - (intOf i).toNat)
    case atStart => exact ⟨0, Nat.zero_le _, rfl, rfl, Below.refl _ _⟩
    case round =>
      obtain ⟨k, hk, rfl, hi, hb⟩ := hrel
      have hB : w.heap.size < wr.heap.size := by have := hb.size; simp at this; omega
      have hbw : Below w.heap.size w wr := ((Below.refl _ _).alloc (Nat.le_refl _) _).trans (hb.mono (by omega))
      obtain ⟨hcs, hfz⟩ := al8 hb
      by_cases hlt : k < c.subs.length
      · obtain ⟨b, o, hpa, hbb, hcc⟩ := hc.2.at_ hlt
        obtain ⟨pa, pc, sa, sc⟩ := l
        obtain rfl : sa = some ⟨b, o, none⟩ := hpa
        have c0 : w.cell? ⟨b, o + k * 3, none⟩ = some (.int .i64 c.subs[k].prog) := hcc k hlt 0 _ rfl
        have c1 : w.cell? ⟨b, o + k * 3 + 1, none⟩ = some (.int .i64 c.subs[k].level) := hcc k hlt 1 _ rfl
        have c2 : w.cell? ⟨b, o + k * 3 + 2, none⟩ = some (.int .i64 c.subs[k].deadline) := hcc k hlt 2 _ rfl
        have hse : aml c.levels c.progs.length c.subs[k] = if !inB c.subs[k].prog 0 (c.progs.length - 1) then 3 else if !inB c.subs[k].level 0 (c.levels - 1) || !inB c.subs[k].deadline 0 16777215 then 1 else 0 := rfl
        have Hse := Lib.hid hse
        clear hse
        have bad := fun e he hne => Lib.hid (aiW (e := e) hlt hi he hne)
        by_cases g1 : inB c.subs[k].prog 0 (c.progs.length - 1) = true
        · by_cases g2 : inB c.subs[k].level 0 (c.levels - 1) = true
          · by_cases g3 : inB c.subs[k].deadline 0 16777215 = true
            · go_wp2_with (first | (go_at_call 96; refine (adF _ _ _ _).mono ?_; rintro e w' ⟨rfl, rfl⟩))
              go_roundw
              case rel => exact ⟨k + 1, by omega, by go_num, ah7 hlt hi (by rw [Hse.out]; simp [g1, g2, g3]), hb.alloc (by omega) _⟩
              case measure => simp [intOf]; omega
            · go_wp2_with (first | (go_at_call 96; refine (adF _ _ _ _).mono ?_; rintro e w' ⟨rfl, rfl⟩))
              go_ret
              exact ⟨adH (by rw [Hfin.out, (bad 1 (by rw [Hse.out]; simp [g1, g2, g3]) (by omega)).out]), hbw.alloc (by omega) _⟩
          · go_wp2_with (first | (go_at_call 96; refine (adF _ _ _ _).mono ?_; rintro e w' ⟨rfl, rfl⟩))
            go_ret
            exact ⟨adH (by rw [Hfin.out, (bad 1 (by rw [Hse.out]; simp [g1, g2]) (by omega)).out]), hbw.alloc (by omega) _⟩
        · go_wp2_with (first | (go_at_call 96; refine (adF _ _ _ _).mono ?_; rintro e w' ⟨rfl, rfl⟩))
          go_ret
          exact ⟨adH (by rw [Hfin.out, (bad 3 (by rw [Hse.out]; simp [g1]) (by omega)).out]), hbw.alloc (by omega) _⟩
      · go_wp2
        go_ret
        exact ⟨adH (by
          have hi' : acu c.levels c.progs.length (c.subs.drop k) = acu c.levels c.progs.length c.subs := hi
          rw [Hfin.out, ← hi', List.drop_eq_nil_of_le (by omega)]; rfl), hbw⟩
set_option maxHeartbeats 2000000 in
theorem ane (c : Cfg) (l : CfgAt) (w : World) (hc : ah5 w w.heap.size c l) :
    Calls Tryz.prog 59 #[anm c l] w fun e w' => e = .returned (.int .i64 (adN c)) ∧ Below w.heap.size w w' := by
  by_cases hn : ahL c = true
  · obtain ⟨_, _, h1, h2, _⟩ := afh hn
    by_cases hp : abT c = 0
    · have hfin : adN c = afa c := by simp [adN, hn, hp]
      have Hfin := Lib.hid hfin
      clear hfin
      unfold anm
      go_enter Tryz.func59, Tryz.ntmps59
      go_wp2_with fail
      refine (aez c l _).mono ?_; rintro e w1 ⟨rfl, hb1⟩
      obtain ⟨hc1, hf1⟩ := al8 hb1
      have hw1 := aiD hb1
      go_wp2_with fail
      refine (agj c l _ h1 h2 (hc.up hw1)).mono ?_; rintro e w2 ⟨rfl, hb2⟩
      have hw2 := ae2 hw1 hb2
      obtain ⟨hc2, hf2⟩ := al8 (ae2 hb1 hb2)
      clear hc1 hf1
      go_wp2_with fail
      refine (aok c l _ h1 h2 (hc.up hw2)).mono ?_; rintro e w3 ⟨rfl, hb3⟩
      go_wp2_with fail
      go_ret
      exact ⟨adH Hfin.out.symm, ae2 hw2 hb3⟩
    · have hfin : adN c = abT c := by simp [adN, hn, hp]
      have Hfin := Lib.hid hfin
      have hp' : (abT c == 0) = false := by simpa using hp
      clear hfin hp
      unfold anm
      go_enter Tryz.func59, Tryz.ntmps59
      go_wp2_with fail
      refine (aez c l _).mono ?_; rintro e w1 ⟨rfl, hb1⟩
      obtain ⟨hc1, hf1⟩ := al8 hb1
      have hw1 := aiD hb1
      go_wp2_with fail
      refine (agj c l _ h1 h2 (hc.up hw1)).mono ?_; rintro e w2 ⟨rfl, hb2⟩
      have hw2 := ae2 hw1 hb2
      obtain ⟨hc2, hf2⟩ := al8 (ae2 hb1 hb2)
      clear hc1 hf1
      go_wp2_with fail
      go_ret
      exact ⟨adH Hfin.out.symm, hw2⟩
  · have hfin : adN c = 1 := by simp [adN, hn]
    have Hfin := Lib.hid hfin
    clear hfin
    unfold anm
    go_enter Tryz.func59, Tryz.ntmps59
    go_wp2_with fail
    refine (aez c l _).mono ?_; rintro e w1 ⟨rfl, hb1⟩
    have hw1 := aiD hb1
    go_wp2_with fail
    go_ret
    exact ⟨adH Hfin.out.symm, hw1⟩
end
section
open Go Go.RowKit
variable [Tb]
theorem avf {f : FuncId} (hf : Nat.blt f aee = true) {r : Cfg → Int} (h : ∀ (c : Cfg) (l : CfgAt) (w : World), ah5 w w.heap.size c l → Calls Tryz.prog f #[anm c l] w fun e w' => e = .returned (.int .i64 (r c)) ∧ Below w.heap.size w w') :
    CO Tryz.prog (⟨f, [.val 13], [.sh sI_], fun x => some ((r x.1, ()), ())⟩ : Con SR1) := fun x out hx B W hg vs F w hc => by
  obtain ⟨hb, hB, hs⟩ := hc
  replace hx : (some ((r x.1, ()), ()) : Option ((Int × Unit) × Unit)) = some out := hx
  obtain rfl := Option.some.inj hx
  show adP Tryz.prog f _ w _
  rw [acC hf]
  rcases vs with _ | ⟨v1, _ | ⟨v2, vs⟩⟩
  · exact aaD hs
  · replace hs : Sat B w (ar6 SR1 13 x.1 v1 :: [F]) := hs
    obtain ⟨p, rfl, hp, s1⟩ := auc hs
    exact (h x.1 p w hp).mono fun e w' ⟨he, hb'⟩ => ⟨[.int .i64 (r x.1)], he, hb.trans (hb'.mono hB), Nat.le_trans hB hb'.size, avO (S := SR1) (s1.below hb')⟩
  · replace hs : Sat B w (ar6 SR1 13 x.1 v1 :: ([fun _ => False] ++ [F])) := hs
    exact aaD hs.drop
def al4 (c : Cfg) : Option ((Int × Unit) × Unit) := some ((adN c, ()), ())
noncomputable abbrev alb : Con SR1 := ⟨59, [.val 13], [.sh sI_], fun x => al4 x.1⟩
theorem aol : CO Tryz.prog alb := avf (by kernel_rfl) ane
end
section
open Go
def abB {α : Type} (o : Option α) (P : α → Prop) : Prop := ∃ x, o = some x ∧ P x
section
variable {α β : Type} {o : Option α} {P Q : α → Prop} {x : α}
theorem abB.some_ (h : P x) : abB (some x) P := ⟨x, rfl, h⟩
theorem abB.bind {f : α → Option β} {Q : β → Prop} (h : abB o P) (k : ∀ x, P x → abB (f x) Q) : abB (o.bind f) Q := by
  obtain ⟨x, rfl, hx⟩ := h
  exact k x hx
theorem abB.ite {c : Prop} [Decidable c] {a b : Option α} (h1 : c → abB a P) (h2 : ¬ c → abB b P) : abB (if c then a else b) P := by
  by_cases h : c
  · rw [if_pos h]; exact h1 h
  · rw [if_neg h]; exact h2 h
theorem abB.guard {c : Prop} [Decidable c] {a b : Option α} (h : c) (k : c → abB a P) : abB (if c then a else b) P := by rw [if_pos h]; exact k h
theorem abB.mono (h : abB o P) (k : ∀ x, P x → Q x) : abB o Q := by
  obtain ⟨x, e, hx⟩ := h
  exact ⟨x, e, k x hx⟩
end
def Rg (x : Int) : Prop := -9223372036854775808 ≤ x ∧ x ≤ 9223372036854775807
theorem ad2 {x : Int} (h : Rg x) : wi x = x := w64 h.1 h.2
theorem acf {x : Int} (h : -1000000000000 ≤ x ∧ x ≤ 1000000000000) : Rg x := by unfold Rg; omega
theorem atQ {a b : Int} (h1 : 1 ≤ b) (h2 : 0 ≤ a) : 0 ≤ Int.tmod a b ∧ Int.tmod a b < b := ⟨Int.tmod_nonneg b h2, Int.tmod_lt_of_pos a (by omega)⟩
theorem af9 {σ β : Type} {F : (σ → Option β) → σ → Option β} (I : σ → Prop) (μ : σ → Nat) {P : β → Prop} (step : ∀ self x, I x → (∀ y, I y → μ y < μ x → abB (self y) P) → abB (F self x) P) : ∀ k x, I x → μ x < k → abB (lpF F k x) P
  | 0, x, _, h => by omega
  | k + 1, x, hx, h => step (lpF F k) x hx fun y hy hlt => af9 I μ step k y hy (by omega)
theorem atb {α : Type} {d : α} {xs : List α} {i : Int} (h : 0 ≤ i ∧ i < (xs.length : Int)) : atL d xs i ∈ xs := List.mem_of_getElem? (adk h)
theorem alc {α β : Type} {G : Prop} [d : Decidable G] (A : Option α) (f : α → Option β) : (A.bind fun r => if G then f r else none) = if G then A.bind f else none := by
  by_cases h : G
  · simp only [if_pos h]
  · simp only [if_neg h]; cases A <;> rfl
end
section
open Go.RowKit Go.Maps
set_option maxRecDepth 100000
end
section
open Go Go.RowKit
variable [Tb]
set_option maxRecDepth 100000
end
section
open Go Go.RowKit Go.Maps
set_option maxRecDepth 100000
def tzI (x : Int) : Int := IntKind.u64.wrap (bits BinOp.and IntKind.u64 x (IntKind.u64.wrap (-x)) * 285870213051353865) / 288230376151711744
theorem avJ (a : Int) : 0 ≤ IntKind.u64.wrap a ∧ IntKind.u64.wrap a ≤ 18446744073709551615 := by
  simp only [IntKind.wrap, IntKind.bits, IntKind.signed]
  simp
  omega
theorem ap1 (x : Int) : 0 ≤ tzI x ∧ tzI x < 64 := by
  unfold tzI
  have h := avJ (bits BinOp.and IntKind.u64 x (IntKind.u64.wrap (-x)) * 285870213051353865)
  omega
theorem atM (w : World) : Calls Tryz.prog 225 #[.int .u64 0] w fun e w' => e = .returned (.int .i64 64) ∧ w' = w := by
  go_enter Tryz.func225, Tryz.ntmps225
  go_wp2
  go_ret
  exact ⟨rfl, rfl⟩
theorem ar7 (w : World) (x : Int) (h : ¬ x = 0) (b : Int) (hI : 0 ≤ IntKind.u64.wrap (bits BinOp.and IntKind.u64 x (IntKind.u64.wrap (-x)) * 285870213051353865) / 288230376151711744 ∧ IntKind.u64.wrap (bits BinOp.and IntKind.u64 x (IntKind.u64.wrap (-x)) * 285870213051353865) / 288230376151711744 < 64) (hb : w.cell? ⟨0, (IntKind.u64.wrap (bits BinOp.and IntKind.u64 x (IntKind.u64.wrap (-x)) * 285870213051353865) / 288230376151711744).toNat, none⟩ = some (.int .u8 b)) : Calls Tryz.prog 225 #[.int .u64 x] w fun e w' => e = .returned (.int .i64 (wrap64 b)) ∧ w' = w := by
  go_enter Tryz.func225, Tryz.ntmps225
  go_wp2
  go_ret
  exact ⟨rfl, rfl⟩
variable [T : Tb]
def tzV (x : Int) : Int := if x = 0 then 64 else wrap64 (T.tb (tzI x).toNat)
def pTz (x : Int) : Option ((Int × Unit) × Unit) := some ((tzV x, ()), ())
noncomputable abbrev auu : Con SR1 := ⟨225, [.sh sU_], [.sh sI_], fun x => pTz x.1⟩
theorem avZ : CO Tryz.prog auu := fun x out hx B W hg vs F w hw => by
  obtain ⟨hb, hB, hs⟩ := hw
  obtain ⟨(x : Int), u⟩ := x
  cases hx
  show adP Tryz.prog auu.f _ w _
  rw [acC rfl]
  rcases vs with _ | ⟨v, _ | ⟨v2, vs⟩⟩
  · exact aaD hs
  · have hs0 : Sat B w (pcS SR1.kt (.i .u64 x) v :: [F]) := hs
    have hv : v = .int .u64 x := by
      obtain ⟨_, _, _, _, _, _, h1, _⟩ := hs0
      exact (aaB.1 h1 : v = .int .u64 x)
    subst hv
    have hc : Calls Tryz.prog 225 #[.int .u64 x] w fun e w' => e = .returned (.int .i64 (tzV x)) ∧ w' = w := by
      by_cases h : x = 0
      · subst h
        exact atM w
      · refine (ar7 w x h (T.tb (tzI x).toNat) (ap1 x) ?_).mono fun e w' ⟨he, hw⟩ => ⟨by rw [he]; unfold tzV; rw [if_neg h], hw⟩
        exact ((al8 hb).1 0 _ hg.1).trans (hg.2 _ ((Int.toNat_lt (ap1 x).1).2 (ap1 x).2))
    refine hc.mono fun e w' ⟨he, hw'⟩ => ⟨[.int .i64 (tzV x)], he, ?_⟩
    subst hw'
    exact ⟨hb, hB, aa9 (p := pcS SR1.kt (.i .i64 (tzV x)) (.int .i64 (tzV x))) hs0.drop fun h => aaB.2 rfl⟩
  · replace hs : Sat B w (pcS SR1.kt (.i .u64 x) v :: ([fun _ => False] ++ [F])) := hs
    exact aaD hs.drop
end
section
open Go.RowKit Go.Maps
end
section
open Go Go.RowKit
variable [Tb]
end
end Go.Proofs.YtlcelajkhklkbaaGreat
