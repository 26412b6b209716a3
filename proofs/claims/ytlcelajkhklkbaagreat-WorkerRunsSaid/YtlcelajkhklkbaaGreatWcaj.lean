/- The table that words.Low looks at lies in block 0 of every world that fits: 64 bytes, whatever they are. What is needed of a configuration's types. Walks: slices.Clone at the slices of a configuration. slices.Clone at the slices of a configuration, in the evaluator's words. Walks: the checks of a configuration (config and its reference), function by function. Walks: the checks of a configuration's programs and submissions (config). The check of a configuration, in the evaluator's words. What it means that an answer is there; numbers; loops. Walks: park.Asleep. park.Asleep in the evaluator's form. bits.TrailingZeros64 over any table. Walks: slices.Clone at the rows of an environment. slices.Clone at the rows of an environment, in the evaluator's words. -/
import Derived.Test.YtlcelajkhklkbaaGreatWcai
import Derived.HandedShaped
import Derived.Test.YtlcelajkhklkbaaGreatRows
import Derived.Test.YtlcelajkhklkbaaGreatWcaa
import Derived.Laws.AppendOwn
import Derived.Lib.SliceRun
import Derived.WalkKit
set_option linter.all false
namespace Go.Proofs.YtlcelajkhklkbaaGreat
section
open Go
set_option maxRecDepth 100000
def atn (P : Program) : Bool := match ((begin P (fun _ _ => 0) default).world.heap[0]?).bind Obj.row? with
  | none => false
  | some (z, t) => Nat.beq z.size 64 && P.buildable t && (match P.cellTypes P.depth t with
    | none => false
    | some ts => ts.all fun u => match P.underlying u with
      | some (.int .u8) => true
      | _ => false)
theorem atm : atn Tryz.prog = true := by kernel_rfl
theorem axJ {P : Program} {w : World} (ht : atn P = true) (hp : 0 < P.globals.size) (h : w.ShapedOpen P) : ∃ T : Tb, aym w.heap.size w := by
  unfold atn at ht
  split at ht
  · cases ht
  rename_i z t h0
  split at ht
  · simp at ht
  rename_i ts hts
  simp only [Bool.and_eq_true, List.all_eq_true] at ht
  obtain ⟨⟨hz, hb⟩, ha⟩ := ht
  have hz : z.size = 64 := Nat.eq_of_beq_eq_true hz
  obtain ⟨cs, hh, hs, hr⟩ := h.1 0 z t hp h0
  obtain ⟨ts', hts', _, hall⟩ := hr hb
  rw [hts] at hts'
  cases hts'
  have hc : ∀ i : Nat, i < 64 → ∃ n : Int, (0 ≤ n ∧ n ≤ 255) ∧ w.cell? ⟨0, i, none⟩ = some (.int .u8 n) := fun i hi => by
    have h1 : i < cs.size := by omega
    obtain ⟨u, hu, hok⟩ := hall i cs[i] (by simp [h1])
    have hm := ha u (List.mem_of_getElem? hu)
    have hcell : w.cell? ⟨0, i, none⟩ = some cs[i] := by simp [World.cell?, hh, h1]
    rw [hcell]
    unfold Cell.ok at hok
    split at hm
    · rename_i hu8
      rw [hu8] at hok
      cases hv : cs[i] <;> rw [hv] at hok <;> simp at hok
      case int k' n =>
        obtain ⟨rfl, hn⟩ := hok
        have hn : IntKind.u8.min ≤ n ∧ n ≤ IntKind.u8.max := hn
        simp [IntKind.min, IntKind.max, IntKind.bits, IntKind.signed] at hn
        exact ⟨n, by omega, rfl⟩
    · cases hm
  have hpos : 0 < w.heap.size := by
    rcases Nat.eq_zero_or_pos w.heap.size with e | e
    · rw [Array.getElem?_eq_none (by omega)] at hh; cases hh
    · exact e
  classical
  refine ⟨⟨fun i => if hi : i < 64 then (hc i hi).choose else 0, fun i => ?_⟩, hpos, fun i hi => ?_⟩
  · split
    · rename_i hi; exact (hc i hi).choose_spec.1
    · omega
  · show w.cell? _ = some (.int .u8 (if hi : i < 64 then (hc i hi).choose else 0))
    rw [dif_pos hi]
    exact (hc i hi).choose_spec.2
end
section
open Go.RowKit
def akE (x : Option Addr × Nat × Nat) : List Value := [.slice x.1 x.2.1 x.2.2]
theorem aiF {w : World} {base : Nat} {e : TypeId} {size : Nat} {v : Value} {n : Nat} {xs : List Value} (h : w.ownsRow base e size v n xs) : ∃ A cap, v = .slice A n cap := by
  rcases h.2 with ⟨rfl, rfl⟩ | ⟨g, cap, cur, rfl, _⟩
  · exact ⟨_, _, rfl⟩
  · exact ⟨_, _, rfl⟩
theorem axH : (Tryz.prog.info? 27).map (fun i => (i.zero, i.size, i.bytes)) = some (some (.agg #[.int .i64 0, .int .i64 0, .int .i64 0]), 3, 24) := by kernel_rfl
theorem awy : (Tryz.prog.info? 64).map (fun i => (i.zero, i.size, i.bytes)) = some (some (.agg #[.int .i64 0, .int .i64 0, .int .i64 0]), 3, 24) := by kernel_rfl
theorem aw5 : (Tryz.prog.info? 24).map (fun i => (i.zero, i.size, i.bytes)) = some (some (.slice none 0 0), 1, 24) := by kernel_rfl
theorem aoT {α : Type} {enc : α → List Value} {sz : Nat} (henc : ∀ x, (enc x).length = sz) : ∀ (xs : List α) (i : Nat) (x : α), xs[i]? = some x → ∀ (j : Nat) u, (enc x)[j]? = some u → (xs.flatMap enc)[i * sz + j]? = some u
  | [], _, _, h, _, _, _ => by simp at h
  | y :: ys, 0, x, h, j, u, hu => by
    simp at h; subst h
    have hj : j < (enc y).length := by
      rcases Nat.lt_or_ge j (enc y).length with h | h
      · exact h
      · rw [List.getElem?_eq_none h] at hu; cases hu
    rw [List.flatMap_cons, Nat.zero_mul, Nat.zero_add, List.getElem?_append_left hj]; exact hu
  | y :: ys, i + 1, x, h, j, u, hu => by
    simp at h
    rw [List.flatMap_cons, List.getElem?_append_right (by rw [henc, Nat.succ_mul]; omega), henc, show (i + 1) * sz + j - sz = i * sz + j from by rw [Nat.succ_mul]; omega]
    exact aoT henc ys i x h j u hu
end
section
open Go.RowKit Go.Maps
def amS {α : Type} (enc : α → List Value) (sz : Nat) (el : TypeId) (w : World) (xs : List α) (e : Ending) (w' : World) : Prop :=
  (∃ A' c', e = .returned (.slice A' xs.length c') ∧ w'.ownsRow w.heap.size el sz (.slice A' xs.length c') xs.length (xs.flatMap enc)) ∧ Below w.heap.size w w'
theorem afM {α : Type} {enc : α → List Value} {sz : Nat} (henc : ∀ x, (enc x).length = sz) : ∀ xs : List α, (xs.flatMap enc).length = xs.length * sz
  | [] => by simp
  | x :: xs => by rw [List.flatMap_cons, List.length_append, afM henc xs, henc, List.length_cons, Nat.succ_mul, Nat.add_comm]
theorem am2 {α : Type} {enc : α → List Value} {sz : Nat} (henc : ∀ x, (enc x).length = sz) (hsz : 0 < sz) {w : World} {B : Nat} {a : Addr} {xs : List α} (hx : Sl enc sz w B (some a) xs) (ob : Obj) :
    ∀ j u, (xs.flatMap enc)[j]? = some u → (w.alloc ob).cell? (a.add j) = some u := by
  intro j u hj
  have hjl : j < (xs.flatMap enc).length := (List.getElem?_eq_some_iff.1 hj).1
  have hne : xs ≠ [] := by intro e; subst e; simp at hjl
  obtain ⟨b, o, e, hb, hc⟩ := hx.2 hne
  injection e with e
  subst e
  have hA : (⟨b, o, none⟩ : Addr).add j = ⟨b, o + j, none⟩ := by unfold Addr.add; split <;> simp_all
  rw [hA]
  refine Lib.cell?_alloc_some _ ?_
  rw [afM henc] at hjl
  have hi : j / sz < xs.length := (Nat.div_lt_iff_lt_mul hsz).2 hjl
  have hm : j % sz < (enc xs[j / sz]).length := by rw [henc]; exact Nat.mod_lt _ hsz
  have hg := aoT (enc := enc) (sz := sz) henc xs (j / sz) xs[j / sz] (List.getElem?_eq_getElem hi) (j % sz) _ (List.getElem?_eq_getElem hm)
  have hjj : j / sz * sz + j % sz = j := by rw [Nat.mul_comm]; exact Nat.div_add_mod _ _
  rw [hjj, hj] at hg
  injection hg with hg
  have hc' := hc (j / sz) _ (List.getElem?_eq_getElem hi) (j % sz) _ (List.getElem?_eq_getElem hm)
  rw [hg]
  rw [Nat.add_assoc, hjj] at hc'
  exact hc'
set_option maxHeartbeats 2000000 in
theorem ao3 (A : Option Addr) (cap : Nat) (xs : List Ins) (w : World) (hx : Sl Ins.enc 3 w w.heap.size A xs) (hn : xs.length ≤ 1000000) :
    Calls Tryz.prog 63 #[.slice A xs.length cap] w (amS Ins.enc 3 27 w xs) := by
  cases A with
  | none =>
    have hnil : xs = [] := by
      rcases xs with _ | ⟨x, xs⟩
      · rfl
      · obtain ⟨b, o, e, _⟩ := hx.2 (by simp)
        cases e
    subst hnil
    have q : ∀ (w : World) (a : Option Addr) (n c n' c' : Nat), (binOp .eql 24 (.slice a n c) (.slice none n' c')).run Tryz.prog w = .ok (.bool a.isNone) w := fun w a n c n' c' => Lib.run_eql_slice_nil w _ _ a n c n' c' Tryz.underlying24
    go_enter Tryz.func63, Tryz.ntmps63
    go_wp2
    go_ret
    exact ⟨⟨none, 0, rfl, World.ownsRow_nil _ _ _ _⟩, Below.refl _ _⟩
  | some a =>
    obtain ⟨i0, hi, hz0, hz1, hz2⟩ := info_parts axH
    have q : ∀ (w : World) (a : Option Addr) (n c n' c' : Nat), (binOp .eql 24 (.slice a n c) (.slice none n' c')).run Tryz.prog w = .ok (.bool a.isNone) w := fun w a n c n' c' => Lib.run_eql_slice_nil w _ _ a n c n' c' Tryz.underlying24
    have hcell := Lib.hid (am2 (sz := 3) (w := w) (B := w.heap.size) (fun _ => rfl) (by decide) hx (Obj.cells #[] 27))
    clear hx
    go_enter Tryz.func63, Tryz.ntmps63
    go_wp2_with (at_builtin; refine wpList_append_own_at _ rfl _ _ 24 rfl w.heap.size 27 i0 (.agg #[.int .i64 0, .int .i64 0, .int .i64 0]) 3 24 Tryz.underlying24 hi hz0 hz1 hz2 rfl (by decide) _ _ _ rfl (World.ownsRow_made w #[] 0 (Nat.le_refl _) (Nat.zero_le _) rfl) a xs.length cap (xs.flatMap Ins.enc) rfl ?qc0 ?qc1 ?qc2 ?qc3 ?qc4 ?qc5 ?_)
    case qc0 => exact afM (enc := Ins.enc) (sz := 3) (fun _ => rfl) xs
    case qc1 => exact hcell.out
    case qc2 => intro u hu; rw [List.mem_flatMap] at hu; obtain ⟨x, _, hu⟩ := hu; simp [Ins.enc] at hu; rcases hu with rfl | rfl | rfl <;> rfl
    case qc3 => unfold maxLen; omega
    case qc4 => omega
    case qc5 => simp
    intro v' w1 hown hgrow _ _
    obtain ⟨A', c', hv⟩ := aiF hown
    subst hv
    clear hcell
    go_wp2
    go_ret
    exact ⟨⟨A', c', by simp, by simpa using hown⟩, ((Below.refl _ w).alloc (Nat.le_refl _) _).grown hgrow (by simp) (by intro k hk; simp [Value.ownBlock] at hk; omega)⟩
set_option maxHeartbeats 2000000 in
theorem anN (A : Option Addr) (cap : Nat) (xs : List (Option Addr × Nat × Nat)) (w : World) (hx : Sl akE 1 w w.heap.size A xs) (hn : xs.length ≤ 1000000) :
    Calls Tryz.prog 62 #[.slice A xs.length cap] w (amS akE 1 24 w xs) := by
  cases A with
  | none =>
    have hnil : xs = [] := by
      rcases xs with _ | ⟨x, xs⟩
      · rfl
      · obtain ⟨b, o, e, _⟩ := hx.2 (by simp)
        cases e
    subst hnil
    have q : ∀ (w : World) (a : Option Addr) (n c n' c' : Nat), (binOp .eql 28 (.slice a n c) (.slice none n' c')).run Tryz.prog w = .ok (.bool a.isNone) w := fun w a n c n' c' => Lib.run_eql_slice_nil w _ _ a n c n' c' Tryz.underlying28
    go_enter Tryz.func62, Tryz.ntmps62
    go_wp2
    go_ret
    exact ⟨⟨none, 0, rfl, World.ownsRow_nil _ _ _ _⟩, Below.refl _ _⟩
  | some a =>
    obtain ⟨i0, hi, hz0, hz1, hz2⟩ := info_parts aw5
    have q : ∀ (w : World) (a : Option Addr) (n c n' c' : Nat), (binOp .eql 28 (.slice a n c) (.slice none n' c')).run Tryz.prog w = .ok (.bool a.isNone) w := fun w a n c n' c' => Lib.run_eql_slice_nil w _ _ a n c n' c' Tryz.underlying28
    have hcell := Lib.hid (am2 (sz := 1) (w := w) (B := w.heap.size) (fun _ => rfl) (by decide) hx (Obj.cells #[] 24))
    clear hx
    go_enter Tryz.func62, Tryz.ntmps62
    go_wp2_with (at_builtin; refine wpList_append_own_at _ rfl _ _ 28 rfl w.heap.size 24 i0 (.slice none 0 0) 1 24 Tryz.underlying28 hi hz0 hz1 hz2 rfl (by decide) _ _ _ rfl (World.ownsRow_made w #[] 0 (Nat.le_refl _) (Nat.zero_le _) rfl) a xs.length cap (xs.flatMap akE) rfl ?qc0 ?qc1 ?qc2 ?qc3 ?qc4 ?qc5 ?_)
    case qc0 => exact afM (enc := akE) (sz := 1) (fun _ => rfl) xs
    case qc1 => exact hcell.out
    case qc2 => intro u hu; rw [List.mem_flatMap] at hu; obtain ⟨x, _, hu⟩ := hu; simp [akE] at hu; rcases hu with rfl; rfl
    case qc3 => unfold maxLen; omega
    case qc4 => omega
    case qc5 => simp
    intro v' w1 hown hgrow _ _
    obtain ⟨A', c', hv⟩ := aiF hown
    subst hv
    clear hcell
    go_wp2
    go_ret
    exact ⟨⟨A', c', by simp, by simpa using hown⟩, ((Below.refl _ w).alloc (Nat.le_refl _) _).grown hgrow (by simp) (by intro k hk; simp [Value.ownBlock] at hk; omega)⟩
set_option maxHeartbeats 2000000 in
theorem anL (A : Option Addr) (cap : Nat) (xs : List Sub) (w : World) (hx : Sl Sub.enc 3 w w.heap.size A xs) (hn : xs.length ≤ 1000000) :
    Calls Tryz.prog 64 #[.slice A xs.length cap] w (amS Sub.enc 3 64 w xs) := by
  cases A with
  | none =>
    have hnil : xs = [] := by
      rcases xs with _ | ⟨x, xs⟩
      · rfl
      · obtain ⟨b, o, e, _⟩ := hx.2 (by simp)
        cases e
    subst hnil
    have q : ∀ (w : World) (a : Option Addr) (n c n' c' : Nat), (binOp .eql 29 (.slice a n c) (.slice none n' c')).run Tryz.prog w = .ok (.bool a.isNone) w := fun w a n c n' c' => Lib.run_eql_slice_nil w _ _ a n c n' c' Tryz.underlying29
    go_enter Tryz.func64, Tryz.ntmps64
    go_wp2
    go_ret
    exact ⟨⟨none, 0, rfl, World.ownsRow_nil _ _ _ _⟩, Below.refl _ _⟩
  | some a =>
    obtain ⟨i0, hi, hz0, hz1, hz2⟩ := info_parts awy
    have q : ∀ (w : World) (a : Option Addr) (n c n' c' : Nat), (binOp .eql 29 (.slice a n c) (.slice none n' c')).run Tryz.prog w = .ok (.bool a.isNone) w := fun w a n c n' c' => Lib.run_eql_slice_nil w _ _ a n c n' c' Tryz.underlying29
    have hcell := Lib.hid (am2 (sz := 3) (w := w) (B := w.heap.size) (fun _ => rfl) (by decide) hx (Obj.cells #[] 64))
    clear hx
    go_enter Tryz.func64, Tryz.ntmps64
    go_wp2_with (at_builtin; refine wpList_append_own_at _ rfl _ _ 29 rfl w.heap.size 64 i0 (.agg #[.int .i64 0, .int .i64 0, .int .i64 0]) 3 24 Tryz.underlying29 hi hz0 hz1 hz2 rfl (by decide) _ _ _ rfl (World.ownsRow_made w #[] 0 (Nat.le_refl _) (Nat.zero_le _) rfl) a xs.length cap (xs.flatMap Sub.enc) rfl ?qc0 ?qc1 ?qc2 ?qc3 ?qc4 ?qc5 ?_)
    case qc0 => exact afM (enc := Sub.enc) (sz := 3) (fun _ => rfl) xs
    case qc1 => exact hcell.out
    case qc2 => intro u hu; rw [List.mem_flatMap] at hu; obtain ⟨x, _, hu⟩ := hu; simp [Sub.enc] at hu; rcases hu with rfl | rfl | rfl <;> rfl
    case qc3 => unfold maxLen; omega
    case qc4 => omega
    case qc5 => simp
    intro v' w1 hown hgrow _ _
    obtain ⟨A', c', hv⟩ := aiF hown
    subst hv
    clear hcell
    go_wp2
    go_ret
    exact ⟨⟨A', c', by simp, by simpa using hown⟩, ((Below.refl _ w).alloc (Nat.le_refl _) _).grown hgrow (by simp) (by intro k hk; simp [Value.ownBlock] at hk; omega)⟩
end
section
open Go Go.RowKit
variable [Tb]
noncomputable def ahH (l : List Ins) : Option ((List Ins × Unit) × Unit) := if l.length ≤ 1000000 then some ((l, ()), ()) else none
noncomputable abbrev amK : Con SR1 := ⟨63, [.sh (.ro 3)], [.sh (.row 3)], fun x => ahH x.1⟩
noncomputable def afQ (l : List Sub) : Option ((List Sub × Unit) × Unit) := if l.length ≤ 1000000 then some ((l, ()), ()) else none
noncomputable abbrev alT : Con SR1 := ⟨64, [.sh (.ro 4)], [.sh (.row 4)], fun x => afQ x.1⟩
theorem ard {f : FuncId} (hf : Nat.blt f ae2 = true) {c sz : Nat} {el : TypeId} (hp : ∀ x, arC (SR1.kt.vw c x) = true) (hsz : SR1.kt.sz c = sz) {spec : List (SR1.T c) → Option ((List (SR1.T c) × Unit) × Unit)} (hspec : ∀ l o, spec l = some o → o = ((l, ()), ()) ∧ l.length ≤ 1000000)
    (h : ∀ (A : Option Addr) (cap : Nat) (xs : List (SR1.T c)) (w : World), Sl (adL SR1.kt c) sz w w.heap.size A xs → xs.length ≤ 1000000 → Calls Tryz.prog f #[.slice A xs.length cap] w (amS (adL SR1.kt c) sz el w xs)) :
    CO Tryz.prog ⟨f, [.sh (.ro c)], [.sh (.row c)], fun x => spec x.1⟩ := fun x out hx B W hg vs F w hw => by
  obtain ⟨hb, hB, hs⟩ := hw
  obtain ⟨ho, hl⟩ := hspec x.1 out hx
  subst ho
  show adM Tryz.prog f _ w _
  rw [acu hf]
  rcases vs with _ | ⟨v, _ | ⟨v2, vs⟩⟩
  · exact aaB hs
  · replace hs : Sat B w [pcS SR1.kt (.ro c x.1) v, F] := hs
    obtain ⟨A, cap, rfl, hsl⟩ := av3 hs
    have s1 := hs.drop
    rw [hsz] at hsl
    refine (h A cap x.1 w hsl hl).mono fun e w' ⟨⟨A', c', he, hown⟩, hb'⟩ => ⟨[.slice A' (List.length x.1) c'], he, hb.trans (hb'.mono hB), Nat.le_trans hB hb'.size, ?_⟩
    have s2 := ah9 s1 hb' hB hown
    rw [← hsz] at s2
    exact af1 hp s2
  · replace hs : Sat B w (pcS SR1.kt (.ro c x.1) v :: ([fun _ => False] ++ [F])) := hs
    exact aaB hs.drop
theorem ap6 : CO Tryz.prog amK := ard rfl (c := 3) (sz := 3) (fun _ => rfl) rfl (spec := ahH) (fun l o h => by
  unfold ahH at h
  split at h
  · rename_i hl; cases h; exact ⟨rfl, hl⟩
  · cases h) fun A cap xs w hx hn => ao3 A cap xs w hx hn
theorem ao0 : CO Tryz.prog alT := ard rfl (c := 4) (sz := 3) (fun _ => rfl) rfl (spec := afQ) (fun l o h => by
  unfold afQ at h
  split at h
  · rename_i hl; cases h; exact ⟨rfl, hl⟩
  · cases h) fun A cap xs w hx hn => anL A cap xs w hx hn
noncomputable def afR (l : List (List Ins)) : Option ((List (List Ins) × Unit) × Unit) := if l.length ≤ 1000000 then some ((l, ()), ()) else none
noncomputable abbrev agk : Con SR1 := ⟨62, [.sh (.rr 3)], [.sh (.row 18)], fun x => afR x.1⟩
def aun (xss : List (List Ins)) (ps : List (Option Addr × Nat)) : List (Option Addr × Nat × Nat) := List.zipWith (fun xs a => (a.1, xs.length, a.2)) xss ps
theorem aoO {Φ : World → Prop} {L : List aaf} : ∀ (xss : List (List Ins)) (ps : List (Option Addr × Nat)), xss.length = ps.length → (∀ u, Φ u → ∀ (i : Nat) xs a, xss[i]? = some xs → ps[i]? = some a → Sl (adL SR1.kt 3) 3 u u.heap.size a.1 xs ∧ xs.length ≤ a.2) →
    Ent (adG Φ :: L) (abE SR1.kt (pcS SR1.kt) 18 xss ((aun xss ps).map akE) ++ adG Φ :: L)
  | [], [], _, _ => Ent.refl
  | [], _ :: _, h, _ => by cases h
  | _ :: _, [], h, _ => by cases h
  | xs :: xss, a :: ps, hl, hΦ => by
    have ih := aoO (Φ := Φ) (L := L) xss ps (by simpa using hl) fun u hu i ys b h1 h2 => hΦ u hu (i + 1) ys b h1 h2
    refine ai4.trans (fun h hs => ?_)
    have h1 := aa5 (A := adG Φ) ih hs
    refine aaF (A' := pcS SR1.kt (.ro 3 xs) (.slice a.1 xs.length a.2)) (fun k hk => ?_) h1
    refine aaC.2 (show pcW SR1.kt (obS SR1.kt) (rwS SR1.kt) (.ro 3 xs) (.slice a.1 xs.length a.2) k from ⟨a.1, a.2, rfl, ?_⟩)
    exact acM (fun u hu => hΦ u hu 0 xs a rfl rfl) _ hk
theorem auW {B : Nat} {w : World} {A R F : aaf} {N : List aaf} (s : Sat B w (N ++ A :: [R, F])) : Sat B w ((R :: N) ++ [A, F]) := s.perm (aar fun f g h1 h2 h3 => by simp only [List.cons_append, h1, h2, h3]; omega)
theorem anM (xss : List (List Ins)) (hl : xss.length ≤ 1000000) (B : Nat) (W : World) (v : Value) (F : aaf) (w : World) (hw : Cls B W [pcS SR1.kt (.rr 3 xss) v, F] w) :
    Calls Tryz.prog agk.f #[v] w fun e w' => ∃ u, e = .returned u ∧ Cls B W [pcS SR1.kt (.row 18 xss) u, F] w' := by
  obtain ⟨hb, hB, hs⟩ := hw
  have s1 : Sat B w ((fun h => ∃ A cap, v = .slice A xss.length cap ∧ rrS (adL SR1.kt 3) (SR1.kt.sz 3) A cap xss h) :: [F]) := aaW (aiM (S := SR1) (f := .rr 3 xss) (fun _ h => h) fun _ _ h => h) hs
  obtain ⟨h, H, k1, k2, a, e, ⟨A, cap, rfl, ps0, h1⟩, h2⟩ := s1
  have s2 : Sat B w (adG _ :: [F]) := ⟨h, H, k1, k2, a, e, h1, h2⟩
  have h3 := ai3 s2 List.mem_cons_self
  have hps : xss.length ≤ ps0.length := by
    rcases Nat.eq_zero_or_pos xss.length with h0 | h0
    · omega
    · obtain ⟨a, ha, _⟩ := h3.2 (xss.length - 1) _ (List.getElem?_eq_getElem (Nat.sub_lt h0 Nat.one_pos))
      have := (List.getElem?_eq_some_iff.1 ha).1
      omega
  obtain ⟨ps, hpe⟩ : ∃ ps, ps = ps0.take xss.length := ⟨_, rfl⟩
  have hpl : xss.length = ps.length := by rw [hpe, List.length_take]; omega
  have hpg : ∀ (i : Nat) b, ps[i]? = some b → ps0[i]? = some b := fun i b hb => by
    rw [hpe, List.getElem?_take] at hb
    split at hb
    · exact hb
    · cases hb
  have hrl : (aun xss ps).length = xss.length := by unfold aun; rw [List.length_zipWith]; omega
  have hsl : Sl akE 1 w w.heap.size A (aun xss ps) := by
    refine ⟨by omega, fun hne => ?_⟩
    have hpos : 0 < xss.length := by rw [← hrl]; exact List.length_pos_iff.2 hne
    obtain ⟨a0, _, _, b, o, hA, hlt, _⟩ := h3.2 0 _ (List.getElem?_eq_getElem hpos)
    refine ⟨b, o, hA, hlt, fun i x hi j u hu => ?_⟩
    unfold aun at hi
    rw [List.getElem?_zipWith] at hi
    cases hx : xss[i]? with
    | none => rw [hx] at hi; simp at hi
    | some xs =>
      cases hy : ps[i]? with
      | none => rw [hx, hy] at hi; simp at hi
      | some a =>
        rw [hx, hy] at hi
        obtain rfl := Option.some.inj hi
        obtain ⟨a', ha', _, b', o', hA', _, hc⟩ := h3.2 i xs hx
        rw [hpg i a hy] at ha'
        obtain rfl := Option.some.inj ha'
        rw [hA] at hA'
        cases hA'
        cases j with
        | zero =>
          obtain rfl := Option.some.inj hu
          rw [Nat.mul_one, Nat.add_zero]; exact hc
        | succ j => simp [akE] at hu
  have hcl := anN A cap (aun xss ps) w hsl (by omega)
  rw [hrl] at hcl
  refine hcl.mono fun e w' ⟨⟨A', c', he, hown⟩, hb'⟩ => ⟨.slice A' xss.length c', by rw [he, hrl], hb.trans (hb'.mono hB), Nat.le_trans hB hb'.size, ?_⟩
  rw [hrl] at hown
  have s3 := ah9 s2 hb' hB hown
  have s4 : Sat B w' (adG _ :: [adK A' xss.length c' 1 ((aun xss ps).flatMap akE), F]) := s3.perm (List.Perm.swap ..)
  have s5 := s4.imp (aoO xss ps hpl fun u hu i xs a hx hy => by
    obtain ⟨a', ha', hq, _⟩ := hu.2 i xs hx
    rw [hpg i a hy] at ha'
    obtain rfl := Option.some.inj ha'
    exact hq)
  have s6 := auW s5
  have s7 := afz (A := pcS SR1.kt (.row 18 xss) (.slice A' xss.length c')) (fun k hk => aaC.2 (show pcW SR1.kt (obS SR1.kt) (rwS SR1.kt) (.row 18 xss) _ k from ⟨A', c', rfl, acj.2 ⟨(aun xss ps).map akE, by
    rw [show ((aun xss ps).map akE).flatten = (aun xss ps).flatMap akE from by rw [List.flatMap_def]]
    exact hk⟩⟩)) s6
  exact (s7.perm (List.Perm.swap ..)).drop
theorem ao1 : CO Tryz.prog agk := fun x out hx B W hg vs F w hw => by
  obtain ⟨hb, hB, hs⟩ := hw
  replace hx : afR x.1 = some out := hx
  unfold afR at hx
  split at hx
  · rename_i hl
    cases hx
    show adM Tryz.prog agk.f _ w _
    rw [acu rfl]
    rcases vs with _ | ⟨v, _ | ⟨v2, vs⟩⟩
    · exact aaB hs
    · exact (anM x.1 hl B W v F w ⟨hb, hB, hs⟩).mono fun e w' ⟨u, he, h⟩ => ⟨[u], he, h⟩
    · replace hs : Sat B w (pcS SR1.kt (.rr 3 x.1) v :: ([fun _ => False] ++ [F])) := hs
      exact aaB hs.drop
  · cases hx
end
section
open Go.RowKit
set_option maxHeartbeats 400000 in
theorem aek (a b c : Int) (w : World) :
    Calls Tryz.prog 96 #[.int .i64 a, .int .i64 b, .int .i64 c] w fun e w' => e = .returned (.bool (inB a b c)) ∧ w = w' := by
  unfold inB
  by_cases h : b ≤ a
  all_goals
    go_enter Tryz.func96, Tryz.ntmps96
    go_wp2
    go_ret
    all_goals (simp [*] <;> omega)
set_option maxHeartbeats 1000000 in
theorem afp (c : Cfg) (l : CfgAt) (w : World) :
    Calls Tryz.prog 80 #[apf c l] w fun e w' => e = .returned (.bool (akd c)) ∧ Below w.heap.size w w' := by
  unfold apf akd
  by_cases hl : c.levels < 8
  all_goals
    go_enter Tryz.func80, Tryz.ntmps80
    go_wp2_with (first | (go_at_call 96; refine (aek _ _ _ _).mono ?_; rintro e w' ⟨rfl, rfl⟩))
    all_goals go_ret
    all_goals simp [*]
    all_goals exact (Below.refl _ _).alloc (Nat.le_refl _) _
set_option maxHeartbeats 1000000 in
theorem aki (c : Cfg) (l : CfgAt) (x : Ins) (w : World) (h1 : 1 ≤ c.levels) (h2 : c.levels ≤ 64) (hp : c.progs.length ≤ 9223372036854775807) :
    Calls Tryz.prog 97 #[apf c l, .agg #[.int .i64 x.op, .int .i64 x.a, .int .i64 x.b]] w fun e w' => e = .returned (.bool (anz c.levels c.progs.length x)) ∧ Below w.heap.size w w' := by
  unfold apf
  go_enter Tryz.func97, Tryz.ntmps97
  go_wp2_with (first | (go_at_call 96; refine (aek _ _ _ _).mono ?_; rintro e w' ⟨rfl, rfl⟩))
  all_goals go_ret
  all_goals refine ⟨auY (by unfold anz; simp_all), ?_⟩
  all_goals exact ((Below.refl _ _).alloc (Nat.le_refl _) _).alloc (by simp) _
theorem aiJ {lv np : Int} {ps : List (List Ins)} {k : Nat} (hk : k < ps.length) (h : abh lv np (ps.drop k) = abh lv np ps) (hl : 32 < ps[k].length) : abh lv np ps = 2 := by
  rw [← h, List.drop_eq_getElem_cons hk]; simp [abh, hl]
theorem ajE {lv np : Int} {ps : List (List Ins)} {k j : Nat} (hk : k < ps.length) (h : abh lv np (ps.drop k) = abh lv np ps) (hl : ps[k].length ≤ 32) (hj : j < ps[k].length) (hb : anz lv np ps[k][j] = false) : abh lv np ps = 1 := by
  rw [← h, List.drop_eq_getElem_cons hk]
  have : ps[k].all (anz lv np) = false := by
    rw [List.all_eq_false]; exact ⟨_, List.getElem_mem hj, by simp [hb]⟩
  simp [abh, Nat.not_lt.2 hl, this]
theorem aiI {lv np : Int} {ps : List (List Ins)} {k : Nat} (hk : k < ps.length) (h : abh lv np (ps.drop k) = abh lv np ps) (hl : ps[k].length ≤ 32) (ha : (ps[k].take ps[k].length).all (anz lv np) = true) : abh lv np (ps.drop (k + 1)) = abh lv np ps := by
  rw [← h, List.drop_eq_getElem_cons hk]
  rw [List.take_length] at ha
  simp [abh, Nat.not_lt.2 hl, ha]
theorem anX {α : Type} {f : α → Bool} {l : List α} {j : Nat} (hj : j < l.length) (h : (l.take j).all f = true) (hf : f l[j] = true) : (l.take (j + 1)).all f = true := by
  rw [List.take_succ_eq_append_getElem hj, List.all_append, h]; simp [hf]
def aBa (lv np : Int) (ps : List (List Ins)) (k : Nat) : Prop := abh lv np (ps.drop k) = abh lv np ps
def aA1 (lv np : Int) (p : List Ins) (k : Nat) : Prop := (p.take k).all (anz lv np) = true
@[reducible] def atS (c : Cfg) (l : CfgAt) : Obj := .cells #[.int .i64 c.workers, .int .i64 c.levels, .int .i64 c.classes, .int .i64 c.tasks, .int .i64 c.deque, .int .i64 c.heap, .int .i64 c.batch, .int .i64 c.age, .int .i64 c.patience, .slice l.pa c.progs.length l.pc, .slice l.sa c.subs.length l.sc] 31
set_option maxHeartbeats 2000000 in
theorem ahj (c : Cfg) (l : CfgAt) (w : World) (h1 : 1 ≤ c.levels) (h2 : c.levels ≤ 64) (hc : ajl w w.heap.size c l) :
    Calls Tryz.prog 81 #[apf c l] w fun e w' => e = .returned (.int .i64 (adc c)) ∧ Below w.heap.size w w' := by
  have hlen := hc.1.1
  by_cases hp : inB (c.progs.length : Int) 1 32 = true
  · have hfin : adc c = abh c.levels c.progs.length c.progs := by simp [adc, hp]
    have Hfin := Lib.hid hfin
    clear hfin
    unfold apf
    go_enter Tryz.func81, Tryz.ntmps81
    go_wp2_with (first | (go_at_call 96; refine (aek _ _ _ _).mono ?_; rintro e w' ⟨rfl, rfl⟩))
    go_loopw [15] (fun i wr => ∃ k : Nat, k ≤ c.progs.length ∧ i = .int .i64 k ∧ aBa c.levels c.progs.length c.progs k ∧ Below (w.heap.size + 1) (w.alloc (atS c l)) wr) (fun i _ => c.progs.length - (intOf i).toNat)
    case atStart => exact ⟨0, Nat.zero_le _, rfl, rfl, Below.refl _ _⟩
    case round =>
      obtain ⟨k, hk, rfl, hi, hb⟩ := hrel
      have hB : w.heap.size < wr.heap.size := by have := hb.size; simp at this; omega
      have hbw : Below w.heap.size w wr := ((Below.refl _ _).alloc (Nat.le_refl _) _).trans (hb.mono (by omega))
      by_cases hlt : k < c.progs.length
      · obtain ⟨b, o, hpa, hbb, Ai, ci, hcell, hsl⟩ := hc.1.at_ hlt
        have hln := hsl.len
        obtain ⟨hcs, hfz⟩ := anT hb
        by_cases hlong : 32 < c.progs[k].length
        · have hres := Lib.hid (aiJ hlt hi hlong)
          obtain ⟨pa, pc, sa, sc⟩ := l
          obtain rfl : pa = some ⟨b, o, none⟩ := hpa
          go_wp2
          go_ret
          exact ⟨aem (by rw [Hfin.out, hres.out]), hbw⟩
        · obtain ⟨pa, pc, sa, sc⟩ := l
          obtain rfl : pa = some ⟨b, o, none⟩ := hpa
          go_wp2
          obtain ⟨wo, rfl⟩ : ∃ wo : World, wo = wr := ⟨_, rfl⟩
          clear hcs hfz
          go_loopw [24] (fun i ws => ∃ j : Nat, j ≤ c.progs[k].length ∧ i = .int .i64 j ∧ aA1 c.levels c.progs.length c.progs[k] j ∧ Below (w.heap.size + 1) (w.alloc (atS c ⟨some ⟨b, o, none⟩, pc, sa, sc⟩)) ws) (fun i _ => c.progs[k].length - (intOf i).toNat)
          case atStart => exact ⟨0, Nat.zero_le _, rfl, by simp [aA1], hb⟩
          case round =>
            obtain ⟨j, hj, rfl, hq, hb2⟩ := hrel
            have hB2 : w.heap.size < wr.heap.size := by have := hb2.size; simp at this; omega
            have hbw2 : Below w.heap.size w wr := ((Below.refl _ _).alloc (Nat.le_refl _) _).trans (hb2.mono (by omega))
            by_cases hjt : j < c.progs[k].length
            · obtain ⟨b2, o2, hpa2, hbb2, hcc⟩ := hsl.at_ hjt
              obtain rfl : Ai = some ⟨b2, o2, none⟩ := hpa2
              obtain ⟨hcs, hfz⟩ := anT hb2
              have c0 : w.cell? ⟨b2, o2 + j * 3, none⟩ = some (.int .i64 c.progs[k][j].op) := hcc j hjt 0 _ rfl
              have c1 : w.cell? ⟨b2, o2 + j * 3 + 1, none⟩ = some (.int .i64 c.progs[k][j].a) := hcc j hjt 1 _ rfl
              have c2 : w.cell? ⟨b2, o2 + j * 3 + 2, none⟩ = some (.int .i64 c.progs[k][j].b) := hcc j hjt 2 _ rfl
              by_cases hok : anz c.levels c.progs.length c.progs[k][j] = true
              · go_wp2_with (first | (go_at_call 97; refine (aki c ⟨some ⟨b, o, none⟩, pc, sa, sc⟩ c.progs[k][j] _ h1 h2 hlen).mono ?_; rintro e w' ⟨rfl, hbv⟩))
                go_roundw
                case rel => exact ⟨j + 1, by omega, by go_num, anX hjt hq hok, (hb2.alloc (by omega) _).trans (hbv.mono (by simp; omega))⟩
                case measure => simp [intOf]; omega
              · have hok' : anz c.levels c.progs.length c.progs[k][j] = false := by simpa using hok
                clear hok
                have hres := Lib.hid (ajE hlt hi (by omega) hjt hok')
                go_wp2_with (first | (go_at_call 97; refine (aki c ⟨some ⟨b, o, none⟩, pc, sa, sc⟩ c.progs[k][j] _ h1 h2 hlen).mono ?_; rintro e w' ⟨rfl, hbv⟩))
                go_ret
                exact ⟨aem (by rw [Hfin.out, hres.out]), ((Below.refl _ _).alloc (Nat.le_refl _) _).trans (((hb2.alloc (by omega) _).trans (hbv.mono (by simp; omega))).mono (by omega))⟩
            · obtain ⟨hcs, hfz⟩ := anT hb2
              go_wp2
              go_roundw
              case rel => exact ⟨k + 1, by omega, by go_num, aiI hlt hi (by omega) (by
                have e : j = c.progs[k].length := by omega
                subst e; exact hq), hb2⟩
              case measure => simp [intOf]; omega
      · go_wp2
        go_ret
        exact ⟨aem (by
          have hi' : abh c.levels c.progs.length (c.progs.drop k) = abh c.levels c.progs.length c.progs := hi
          rw [Hfin.out, ← hi', List.drop_eq_nil_of_le (by omega)]; rfl), hbw⟩
  · have hfin : adc c = 2 := by simp [adc, hp]
    have Hfin := Lib.hid hfin
    clear hfin
    unfold apf
    go_enter Tryz.func81, Tryz.ntmps81
    go_wp2_with (first | (go_at_call 96; refine (aek _ _ _ _).mono ?_; rintro e w' ⟨rfl, rfl⟩))
    go_ret
    exact ⟨aem Hfin.out.symm, (Below.refl _ _).alloc (Nat.le_refl _) _⟩
theorem akq {lv np : Int} {ss : List Sub} {k : Nat} (hk : k < ss.length) (h : ac3 lv np (ss.drop k) = ac3 lv np ss) {e : Int} (he : aoa lv np ss[k] = e) (hne : e ≠ 0) : ac3 lv np ss = e := by
  subst he
  rw [← h, List.drop_eq_getElem_cons hk]; simp [ac3, hne]
theorem ajp {lv np : Int} {ss : List Sub} {k : Nat} (hk : k < ss.length) (h : ac3 lv np (ss.drop k) = ac3 lv np ss) (he : aoa lv np ss[k] = 0) : ac3 lv np (ss.drop (k + 1)) = ac3 lv np ss := by
  rw [← h, List.drop_eq_getElem_cons hk]; simp [ac3, he]
def aA9 (lv np : Int) (ss : List Sub) (k : Nat) : Prop := ac3 lv np (ss.drop k) = ac3 lv np ss
set_option maxHeartbeats 2000000 in
theorem ap9 (c : Cfg) (l : CfgAt) (w : World) (h1 : 1 ≤ c.levels) (h2 : c.levels ≤ 64) (hc : ajl w w.heap.size c l) :
    Calls Tryz.prog 82 #[apf c l] w fun e w' => e = .returned (.int .i64 (agP c)) ∧ Below w.heap.size w w' := by
  have hlen := hc.1.1
  have hlen2 := hc.2.1
  by_cases hp : 64 < c.subs.length
  · have hfin : agP c = 2 := by simp [agP, hp]
    have Hfin := Lib.hid hfin
    clear hfin
    unfold apf
    go_enter Tryz.func82, Tryz.ntmps82
    go_wp2
    go_ret
    exact ⟨aem Hfin.out.symm, (Below.refl _ _).alloc (Nat.le_refl _) _⟩
  · have hfin : agP c = ac3 c.levels c.progs.length c.subs := by simp [agP, hp]
    have Hfin := Lib.hid hfin
    clear hfin
    unfold apf
    go_enter Tryz.func82, Tryz.ntmps82
    go_wp2
    go_loopw [12] (fun i wr => ∃ k : Nat, k ≤ c.subs.length ∧ i = .int .i64 k ∧ aA9 c.levels c.progs.length c.subs k ∧ Below (w.heap.size + 1) (w.alloc (atS c l)) wr) (fun i _ => c.subs.length - (intOf i).toNat)
    case atStart => exact ⟨0, Nat.zero_le _, rfl, rfl, Below.refl _ _⟩
    case round =>
      obtain ⟨k, hk, rfl, hi, hb⟩ := hrel
      have hB : w.heap.size < wr.heap.size := by have := hb.size; simp at this; omega
      have hbw : Below w.heap.size w wr := ((Below.refl _ _).alloc (Nat.le_refl _) _).trans (hb.mono (by omega))
      obtain ⟨hcs, hfz⟩ := anT hb
      by_cases hlt : k < c.subs.length
      · obtain ⟨b, o, hpa, hbb, hcc⟩ := hc.2.at_ hlt
        obtain ⟨pa, pc, sa, sc⟩ := l
        obtain rfl : sa = some ⟨b, o, none⟩ := hpa
        have c0 : w.cell? ⟨b, o + k * 3, none⟩ = some (.int .i64 c.subs[k].prog) := hcc k hlt 0 _ rfl
        have c1 : w.cell? ⟨b, o + k * 3 + 1, none⟩ = some (.int .i64 c.subs[k].level) := hcc k hlt 1 _ rfl
        have c2 : w.cell? ⟨b, o + k * 3 + 2, none⟩ = some (.int .i64 c.subs[k].deadline) := hcc k hlt 2 _ rfl
        have hse : aoa c.levels c.progs.length c.subs[k] = if !inB c.subs[k].prog 0 (c.progs.length - 1) then 3 else if !inB c.subs[k].level 0 (c.levels - 1) || !inB c.subs[k].deadline 0 16777215 then 1 else 0 := rfl
        have Hse := Lib.hid hse
        clear hse
        have bad := fun e he hne => Lib.hid (akq (e := e) hlt hi he hne)
        by_cases g1 : inB c.subs[k].prog 0 (c.progs.length - 1) = true
        · by_cases g2 : inB c.subs[k].level 0 (c.levels - 1) = true
          · by_cases g3 : inB c.subs[k].deadline 0 16777215 = true
            · go_wp2_with (first | (go_at_call 96; refine (aek _ _ _ _).mono ?_; rintro e w' ⟨rfl, rfl⟩))
              go_roundw
              case rel => exact ⟨k + 1, by omega, by go_num, ajp hlt hi (by rw [Hse.out]; simp [g1, g2, g3]), hb.alloc (by omega) _⟩
              case measure => simp [intOf]; omega
            · go_wp2_with (first | (go_at_call 96; refine (aek _ _ _ _).mono ?_; rintro e w' ⟨rfl, rfl⟩))
              go_ret
              exact ⟨aem (by rw [Hfin.out, (bad 1 (by rw [Hse.out]; simp [g1, g2, g3]) (by omega)).out]), hbw.alloc (by omega) _⟩
          · go_wp2_with (first | (go_at_call 96; refine (aek _ _ _ _).mono ?_; rintro e w' ⟨rfl, rfl⟩))
            go_ret
            exact ⟨aem (by rw [Hfin.out, (bad 1 (by rw [Hse.out]; simp [g1, g2]) (by omega)).out]), hbw.alloc (by omega) _⟩
        · go_wp2_with (first | (go_at_call 96; refine (aek _ _ _ _).mono ?_; rintro e w' ⟨rfl, rfl⟩))
          go_ret
          exact ⟨aem (by rw [Hfin.out, (bad 3 (by rw [Hse.out]; simp [g1]) (by omega)).out]), hbw.alloc (by omega) _⟩
      · go_wp2
        go_ret
        exact ⟨aem (by
          have hi' : ac3 c.levels c.progs.length (c.subs.drop k) = ac3 c.levels c.progs.length c.subs := hi
          rw [Hfin.out, ← hi', List.drop_eq_nil_of_le (by omega)]; rfl), hbw⟩
set_option maxHeartbeats 2000000 in
theorem ao4 (c : Cfg) (l : CfgAt) (w : World) (hc : ajl w w.heap.size c l) :
    Calls Tryz.prog 59 #[apf c l] w fun e w' => e = .returned (.int .i64 (ae7 c)) ∧ Below w.heap.size w w' := by
  by_cases hn : akd c = true
  · obtain ⟨_, _, h1, h2, _⟩ := af6 hn
    by_cases hp : adc c = 0
    · have hfin : ae7 c = agP c := by simp [ae7, hn, hp]
      have Hfin := Lib.hid hfin
      clear hfin
      unfold apf
      go_enter Tryz.func59, Tryz.ntmps59
      go_wp2_with fail
      refine (afp c l _).mono ?_; rintro e w1 ⟨rfl, hb1⟩
      obtain ⟨hc1, hf1⟩ := anT hb1
      have hw1 := aj0 hb1
      go_wp2_with fail
      refine (ahj c l _ h1 h2 (hc.up hw1)).mono ?_; rintro e w2 ⟨rfl, hb2⟩
      have hw2 := afS hw1 hb2
      obtain ⟨hc2, hf2⟩ := anT (afS hb1 hb2)
      clear hc1 hf1
      go_wp2_with fail
      refine (ap9 c l _ h1 h2 (hc.up hw2)).mono ?_; rintro e w3 ⟨rfl, hb3⟩
      go_wp2_with fail
      go_ret
      exact ⟨aem Hfin.out.symm, afS hw2 hb3⟩
    · have hfin : ae7 c = adc c := by simp [ae7, hn, hp]
      have Hfin := Lib.hid hfin
      have hp' : (adc c == 0) = false := by simpa using hp
      clear hfin hp
      unfold apf
      go_enter Tryz.func59, Tryz.ntmps59
      go_wp2_with fail
      refine (afp c l _).mono ?_; rintro e w1 ⟨rfl, hb1⟩
      obtain ⟨hc1, hf1⟩ := anT hb1
      have hw1 := aj0 hb1
      go_wp2_with fail
      refine (ahj c l _ h1 h2 (hc.up hw1)).mono ?_; rintro e w2 ⟨rfl, hb2⟩
      have hw2 := afS hw1 hb2
      obtain ⟨hc2, hf2⟩ := anT (afS hb1 hb2)
      clear hc1 hf1
      go_wp2_with fail
      go_ret
      exact ⟨aem Hfin.out.symm, hw2⟩
  · have hfin : ae7 c = 1 := by simp [ae7, hn]
    have Hfin := Lib.hid hfin
    clear hfin
    unfold apf
    go_enter Tryz.func59, Tryz.ntmps59
    go_wp2_with fail
    refine (afp c l _).mono ?_; rintro e w1 ⟨rfl, hb1⟩
    have hw1 := aj0 hb1
    go_wp2_with fail
    go_ret
    exact ⟨aem Hfin.out.symm, hw1⟩
end
section
open Go Go.RowKit
variable [Tb]
theorem ax5 {f : FuncId} (hf : Nat.blt f ae2 = true) {r : Cfg → Int} (h : ∀ (c : Cfg) (l : CfgAt) (w : World), ajl w w.heap.size c l → Calls Tryz.prog f #[apf c l] w fun e w' => e = .returned (.int .i64 (r c)) ∧ Below w.heap.size w w') :
    CO Tryz.prog (⟨f, [.val 13], [.sh sI_], fun x => some ((r x.1, ()), ())⟩ : Con SR1) := fun x out hx B W hg vs F w hc => by
  obtain ⟨hb, hB, hs⟩ := hc
  replace hx : (some ((r x.1, ()), ()) : Option ((Int × Unit) × Unit)) = some out := hx
  obtain rfl := Option.some.inj hx
  show adM Tryz.prog f _ w _
  rw [acu hf]
  rcases vs with _ | ⟨v1, _ | ⟨v2, vs⟩⟩
  · exact aaB hs
  · replace hs : Sat B w (auv SR1 13 x.1 v1 :: [F]) := hs
    obtain ⟨p, rfl, hp, s1⟩ := awW hs
    exact (h x.1 p w hp).mono fun e w' ⟨he, hb'⟩ => ⟨[.int .i64 (r x.1)], he, hb.trans (hb'.mono hB), Nat.le_trans hB hb'.size, ayy (S := SR1) (s1.below hb')⟩
  · replace hs : Sat B w (auv SR1 13 x.1 v1 :: ([fun _ => False] ++ [F])) := hs
    exact aaB hs.drop
def anP (c : Cfg) : Option ((Int × Unit) × Unit) := some ((ae7 c, ()), ())
noncomputable abbrev amM : Con SR1 := ⟨59, [.val 13], [.sh sI_], fun x => anP x.1⟩
theorem aqa : CO Tryz.prog amM := ax5 (by kernel_rfl) ao4
end
section
open Go
def acG {α : Type} (o : Option α) (P : α → Prop) : Prop := ∃ x, o = some x ∧ P x
section
variable {α β : Type} {o : Option α} {P Q : α → Prop} {x : α}
theorem acG.some_ (h : P x) : acG (some x) P := ⟨x, rfl, h⟩
theorem acG.bind {f : α → Option β} {Q : β → Prop} (h : acG o P) (k : ∀ x, P x → acG (f x) Q) : acG (o.bind f) Q := by
  obtain ⟨x, rfl, hx⟩ := h
  exact k x hx
theorem acG.ite {c : Prop} [Decidable c] {a b : Option α} (h1 : c → acG a P) (h2 : ¬ c → acG b P) : acG (if c then a else b) P := by
  by_cases h : c
  · rw [if_pos h]; exact h1 h
  · rw [if_neg h]; exact h2 h
theorem acG.guard {c : Prop} [Decidable c] {a b : Option α} (h : c) (k : c → acG a P) : acG (if c then a else b) P := by rw [if_pos h]; exact k h
theorem acG.mono (h : acG o P) (k : ∀ x, P x → Q x) : acG o Q := by
  obtain ⟨x, e, hx⟩ := h
  exact ⟨x, e, k x hx⟩
end
def Rg (x : Int) : Prop := -9223372036854775808 ≤ x ∧ x ≤ 9223372036854775807
theorem adm {x : Int} (h : Rg x) : wi x = x := w64 h.1 h.2
theorem abN {x : Int} (h : -1000000000000 ≤ x ∧ x ≤ 1000000000000) : Rg x := by unfold Rg; omega
theorem awv {a b : Int} (h1 : 1 ≤ b) (h2 : 0 ≤ a) : 0 ≤ Int.tmod a b ∧ Int.tmod a b < b := ⟨Int.tmod_nonneg b h2, Int.tmod_lt_of_pos a (by omega)⟩
theorem ajQ {σ β : Type} {F : (σ → Option β) → σ → Option β} (I : σ → Prop) (μ : σ → Nat) {P : β → Prop} (step : ∀ self x, I x → (∀ y, I y → μ y < μ x → acG (self y) P) → acG (F self x) P) : ∀ k x, I x → μ x < k → acG (lpF F k x) P
  | 0, x, _, h => by omega
  | k + 1, x, hx, h => step (lpF F k) x hx fun y hy hlt => ajQ I μ step k y hy (by omega)
theorem azE {α : Type} {d : α} {xs : List α} {i : Int} (h : 0 ≤ i ∧ i < (xs.length : Int)) : atL d xs i ∈ xs := List.mem_of_getElem? (adV h)
theorem amN {α β : Type} {G : Prop} [d : Decidable G] (A : Option α) (f : α → Option β) : (A.bind fun r => if G then f r else none) = if G then A.bind f else none := by
  by_cases h : G
  · simp only [if_pos h]
  · simp only [if_neg h]; cases A <;> rfl
end
section
open Go.RowKit Go.Maps
set_option maxRecDepth 100000
theorem ar9 (w : World) : (Go.underlying 155).run Tryz.prog w = .ok (.pointer 158) w := abt Tryz.underlying155
theorem ar8 (w : World) : (zeroValue 155).run Tryz.prog w = .ok (.pointer none) w := by
  obtain ⟨i, hi⟩ : ∃ i, Tryz.prog.info? 155 = some i ∧ i.zero = some (.pointer none) := ⟨_, rfl, by kernel_rfl⟩
  unfold zeroValue
  rw [aaa (abp hi.1)]
  simp [hi.2]
theorem ays (w : World) : (Instr.typeAssert .nilIface 37 155 true).run Tryz.prog w = .ok (.tuple #[.pointer none, .bool false]) w := by
  simp [Instr.typeAssert, ar9, ar8]
theorem auy (w : World) (T : TypeId) (u : Value) (h : T ≠ 155) : (Instr.typeAssert (.iface T u) 37 155 true).run Tryz.prog w = .ok (.tuple #[.pointer none, .bool false]) w := by
  simp [Instr.typeAssert, ar9, ar8, h]
theorem az2 (w : World) (u : Value) : (Instr.typeAssert (.iface 155 u) 37 155 true).run Tryz.prog w = .ok (.tuple #[u, .bool true]) w := by
  simp [Instr.typeAssert, ar9]
theorem arR (w : World) : Calls Tryz.prog 50 #[.nilIface] w fun e w' => e = .returned (.bool false) ∧ w' = w := by
  have q := ays
  go_enter Tryz.func50, Tryz.ntmps50
  go_wp2
  go_ret
  exact ⟨rfl, rfl⟩
theorem apa (w : World) (T : TypeId) (u : Value) (h : T ≠ 155) : Calls Tryz.prog 50 #[.iface T u] w fun e w' => e = .returned (.bool false) ∧ w' = w := by
  have q : ∀ w, (Instr.typeAssert (.iface T u) 37 155 true).run Tryz.prog w = .ok (.tuple #[.pointer none, .bool false]) w := fun w => auy w T u h
  clear h
  go_enter Tryz.func50, Tryz.ntmps50
  go_wp2
  go_ret
  exact ⟨rfl, rfl⟩
theorem ao9 (w : World) (b o : Nat) (l : Int) (h : w.cell? ⟨b, o + 4, none⟩ = some (.int .i64 l)) : Calls Tryz.prog 50 #[.iface 155 (.pointer (some ⟨b, o, none⟩))] w fun e w' => e = .returned (.bool (decide (l = 5))) ∧ w' = w := by
  have q : ∀ w, (Instr.typeAssert (.iface 155 (.pointer (some ⟨b, o, none⟩))) 37 155 true).run Tryz.prog w = .ok (.tuple #[.pointer (some ⟨b, o, none⟩), .bool true]) w := fun w => az2 w _
  go_enter Tryz.func50, Tryz.ntmps50
  go_wp2
  go_ret
  exact ⟨rfl, rfl⟩
end
section
open Go Go.RowKit
variable [Tb]
set_option maxRecDepth 100000
def asl : MV → Bool
  | .sleep x => decide (x.line = 5)
  | _ => false
noncomputable def amw (m : MV) : Option ((Bool × Unit) × (MV × Unit)) := some ((asl m, ()), (m, ()))
noncomputable abbrev ag1 : Con SR1 := ⟨50, [.mch], [.sh .b], fun x => amw x.1⟩
theorem arS {m : MV} {B : Nat} {w : World} {v : Value} {F : aaf} (hs : Sat B w (pcS SR1.kt (.mach m) v :: [F])) : Calls Tryz.prog 50 #[v] w fun e w' => e = .returned (.bool (asl m)) ∧ w' = w := by
  obtain ⟨hh, Hh, j1, j2, ja, je, h1, hL⟩ := hs
  cases m
  case nil =>
    rw [aaC] at h1
    obtain rfl : v = .nilIface := h1
    exact arR w
  case sleep x =>
    obtain ⟨⟨q1, q2⟩, rfl, ho⟩ := (afJ (K := SR1.kt) rfl).1 h1
    obtain ⟨vs, hst⟩ := ag8.1 ho
    obtain ⟨rfl, hp⟩ := aiL (K := SR1.kt) (L := [pts q1 q2 vs]) rfl (aba (List.perm_append_comm (l₁ := [pts q1 q2 vs])) hst)
    have s2 : Sat B w (pts q1 q2 _ :: [F]) := ⟨hh, Hh, aal.2 ⟨j1, j2, ja, je, hp, hL⟩⟩
    have hc := (s2.cell (i := 4) (v := .int .i64 x.line) rfl).2.1
    exact ao9 w q1 q2 x.line hc
  all_goals
    obtain ⟨q, rfl, _⟩ := (afJ (K := SR1.kt) rfl).1 h1
    exact apa w _ _ (Nat.ne_of_beq_eq_false (by kernel_rfl))
theorem anj : CO Tryz.prog ag1 := fun x out hx B W hg vs F w hw => by
  obtain ⟨hb, hB, hs⟩ := hw
  obtain ⟨m, u⟩ := x
  cases hx
  show adM Tryz.prog ag1.f _ w _
  rw [acu rfl]
  rcases vs with _ | ⟨v, _ | ⟨v2, vs⟩⟩
  · exact aaB hs
  · have hs0 : Sat B w (pcS SR1.kt (.mach m) v :: [F]) := hs
    refine (arS hs0).mono fun e w' ⟨he, hw'⟩ => ⟨[.bool (asl m)], he, ?_⟩
    subst hw'
    exact ⟨hb, hB, abj (p := pcS SR1.kt (.b (asl m)) (.bool (asl m))) hs0 fun h => aaC.2 rfl⟩
  · replace hs : Sat B w (pcS SR1.kt (.mach m) v :: ([fun _ => False] ++ [F])) := hs
    exact aaB hs.drop
end
section
open Go Go.RowKit Go.Maps
set_option maxRecDepth 100000
def tzI (x : Int) : Int := IntKind.u64.wrap (bits BinOp.and IntKind.u64 x (IntKind.u64.wrap (-x)) * 285870213051353865) / 288230376151711744
theorem ayr (a : Int) : 0 ≤ IntKind.u64.wrap a ∧ IntKind.u64.wrap a ≤ 18446744073709551615 := by
  simp only [IntKind.wrap, IntKind.bits, IntKind.signed]
  simp
  omega
theorem ar4 (x : Int) : 0 ≤ tzI x ∧ tzI x < 64 := by
  unfold tzI
  have h := ayr (bits BinOp.and IntKind.u64 x (IntKind.u64.wrap (-x)) * 285870213051353865)
  omega
theorem aws (w : World) : Calls Tryz.prog 225 #[.int .u64 0] w fun e w' => e = .returned (.int .i64 64) ∧ w' = w := by
  go_enter Tryz.func225, Tryz.ntmps225
  go_wp2
  go_ret
  exact ⟨rfl, rfl⟩
theorem auw (w : World) (x : Int) (h : ¬ x = 0) (b : Int) (hI : 0 ≤ IntKind.u64.wrap (bits BinOp.and IntKind.u64 x (IntKind.u64.wrap (-x)) * 285870213051353865) / 288230376151711744 ∧ IntKind.u64.wrap (bits BinOp.and IntKind.u64 x (IntKind.u64.wrap (-x)) * 285870213051353865) / 288230376151711744 < 64) (hb : w.cell? ⟨0, (IntKind.u64.wrap (bits BinOp.and IntKind.u64 x (IntKind.u64.wrap (-x)) * 285870213051353865) / 288230376151711744).toNat, none⟩ = some (.int .u8 b)) : Calls Tryz.prog 225 #[.int .u64 x] w fun e w' => e = .returned (.int .i64 (wrap64 b)) ∧ w' = w := by
  go_enter Tryz.func225, Tryz.ntmps225
  go_wp2
  go_ret
  exact ⟨rfl, rfl⟩
variable [T : Tb]
def tzV (x : Int) : Int := if x = 0 then 64 else wrap64 (T.tb (tzI x).toNat)
def pTz (x : Int) : Option ((Int × Unit) × Unit) := some ((tzV x, ()), ())
noncomputable abbrev axf : Con SR1 := ⟨225, [.sh sU_], [.sh sI_], fun x => pTz x.1⟩
theorem ayL : CO Tryz.prog axf := fun x out hx B W hg vs F w hw => by
  obtain ⟨hb, hB, hs⟩ := hw
  obtain ⟨(x : Int), u⟩ := x
  cases hx
  show adM Tryz.prog axf.f _ w _
  rw [acu rfl]
  rcases vs with _ | ⟨v, _ | ⟨v2, vs⟩⟩
  · exact aaB hs
  · have hs0 : Sat B w (pcS SR1.kt (.i .u64 x) v :: [F]) := hs
    have hv : v = .int .u64 x := by
      obtain ⟨_, _, _, _, _, _, h1, _⟩ := hs0
      exact (aaC.1 h1 : v = .int .u64 x)
    subst hv
    have hc : Calls Tryz.prog 225 #[.int .u64 x] w fun e w' => e = .returned (.int .i64 (tzV x)) ∧ w' = w := by
      by_cases h : x = 0
      · subst h
        exact aws w
      · refine (auw w x h (T.tb (tzI x).toNat) (ar4 x) ?_).mono fun e w' ⟨he, hw⟩ => ⟨by rw [he]; unfold tzV; rw [if_neg h], hw⟩
        exact ((anT hb).1 0 _ hg.1).trans (hg.2 _ ((Int.toNat_lt (ar4 x).1).2 (ar4 x).2))
    refine hc.mono fun e w' ⟨he, hw'⟩ => ⟨[.int .i64 (tzV x)], he, ?_⟩
    subst hw'
    exact ⟨hb, hB, abj (p := pcS SR1.kt (.i .i64 (tzV x)) (.int .i64 (tzV x))) hs0.drop fun h => aaC.2 rfl⟩
  · replace hs : Sat B w (pcS SR1.kt (.i .u64 x) v :: ([fun _ => False] ++ [F])) := hs
    exact aaB hs.drop
end
section
open Go.RowKit Go.Maps
theorem atO : (Tryz.prog.info? 3).map (fun i => (i.zero, i.size, i.bytes)) = some (some (.int .i64 0), 1, 8) := by kernel_rfl
set_option maxHeartbeats 2000000 in
theorem ao2 (A : Option Addr) (cap : Nat) (xs : List Int) (w : World) (hx : Sl alP 1 w w.heap.size A xs) (hn : xs.length ≤ 1000000) :
    Calls Tryz.prog 38 #[.slice A xs.length cap] w (amS alP 1 3 w xs) := by
  cases A with
  | none =>
    have hnil : xs = [] := by
      rcases xs with _ | ⟨x, xs⟩
      · rfl
      · obtain ⟨b, o, e, _⟩ := hx.2 (by simp)
        cases e
    subst hnil
    have q : ∀ (w : World) (a : Option Addr) (n c n' c' : Nat), (binOp .eql 23 (.slice a n c) (.slice none n' c')).run Tryz.prog w = .ok (.bool a.isNone) w := fun w a n c n' c' => Lib.run_eql_slice_nil w _ _ a n c n' c' Tryz.underlying23
    go_enter Tryz.func38, Tryz.ntmps38
    go_wp2
    go_ret
    exact ⟨⟨none, 0, rfl, World.ownsRow_nil _ _ _ _⟩, Below.refl _ _⟩
  | some a =>
    obtain ⟨i0, hi, hz0, hz1, hz2⟩ := info_parts atO
    have q : ∀ (w : World) (a : Option Addr) (n c n' c' : Nat), (binOp .eql 23 (.slice a n c) (.slice none n' c')).run Tryz.prog w = .ok (.bool a.isNone) w := fun w a n c n' c' => Lib.run_eql_slice_nil w _ _ a n c n' c' Tryz.underlying23
    have hcell := Lib.hid (am2 (sz := 1) (w := w) (B := w.heap.size) (fun _ => rfl) (by decide) hx (Obj.cells #[] 3))
    clear hx
    go_enter Tryz.func38, Tryz.ntmps38
    go_wp2_with (at_builtin; refine wpList_append_own_at _ rfl _ _ 23 rfl w.heap.size 3 i0 (.int .i64 0) 1 8 Tryz.underlying23 hi hz0 hz1 hz2 rfl (by decide) _ _ _ rfl (World.ownsRow_made w #[] 0 (Nat.le_refl _) (Nat.zero_le _) rfl) a xs.length cap (xs.flatMap alP) rfl ?qc0 ?qc1 ?qc2 ?qc3 ?qc4 ?qc5 ?_)
    case qc0 => exact afM (enc := alP) (sz := 1) (fun _ => rfl) xs
    case qc1 => exact hcell.out
    case qc2 => intro u hu; rw [List.mem_flatMap] at hu; obtain ⟨x, _, hu⟩ := hu; simp [alP] at hu; subst hu; rfl
    case qc3 => unfold maxLen; omega
    case qc4 => omega
    case qc5 => simp
    intro v' w1 hown hgrow _ _
    obtain ⟨A', c', hv⟩ := aiF hown
    subst hv
    clear hcell
    go_wp2
    go_ret
    exact ⟨⟨A', c', by simp, by simpa using hown⟩, ((Below.refl _ w).alloc (Nat.le_refl _) _).grown hgrow (by simp) (by intro k hk; simp [Value.ownBlock] at hk; omega)⟩
end
section
open Go Go.RowKit
variable [Tb]
end
end Go.Proofs.YtlcelajkhklkbaaGreat
