/- Walks: law 30's events with small numbers, and its comparison. -/
import Derived.Test.YtckgogiemfgdiaaInh10
namespace Go.Proofs.Ytckgogiemfgdiaa
open Go.RowKit Go.Maps

theorem evInfo : (Try.prog.info? 40).map (fun i => (i.zero, i.size, i.bytes)) = some (some (.agg #[.int .i64 0, .int .i64 0, .int .i64 0, .int .i64 0, .int .i64 0]), 5, 40) := by kernel_rfl
theorem row_below1 {w w' : World} {base : Nat} {e : TypeId} {size : Nat} {v : Value} {n : Nat} {xs : List Value} (h : w.ownsRow base e size v n xs) (hb : Below w.heap.size w w') : w'.ownsRow base e size v n xs :=
  h.kept (row := none) ⟨hb.os, hb.tape, hb.output, hb.size, fun k hk _ => hb.block k hk⟩ (by cases hv : v.ownBlock <;> simp)
def kinds9 : List Int := [3, 11, 12, 6, 7, 9, 10, 6, 7]
theorem kinds9_at (i : Nat) (h : i < 9) : (#[.int .i64 3, .int .i64 11, .int .i64 12, .int .i64 6, .int .i64 7, .int .i64 9, .int .i64 10, .int .i64 6, .int .i64 7] : Array Value)[i]? = some (.int .i64 (kinds9.getD i 0)) ∧ 0 ≤ kinds9.getD i 0 ∧ kinds9.getD i 0 ≤ 20 := by
  rcases (by omega : i = 0 ∨ i = 1 ∨ i = 2 ∨ i = 3 ∨ i = 4 ∨ i = 5 ∨ i = 6 ∨ i = 7 ∨ i = 8) with rfl | rfl | rfl | rfl | rfl | rfl | rfl | rfl | rfl <;> exact ⟨rfl, by decide, by decide⟩
/-- A slice of events is handed back. -/
def EvsP (w : World) (n : Nat) (e : Ending) (w' : World) : Prop := (∃ A cap ms, e = .returned (.slice A (List.length ms) cap) ∧ Sl Ev.enc 5 w' w'.heap.size A ms ∧ EvsOk ms ∧ ms.length ≤ n) ∧ Below w.heap.size w w'
set_option maxRecDepth 100000 in
set_option maxHeartbeats 2000000 in
theorem narrow_any (Ar : Option Addr) (capr : Nat) (xs : List Int) (w : World) (hx : Sl encInt 1 w w.heap.size Ar xs) (hwx : IntsWf xs) (hn : xs.length ≤ 1000000) :
    Calls Try.prog 9 #[.slice Ar xs.length capr] w (EvsP w xs.length) := by
  obtain ⟨i0, hi0, hz0, hs0, hb0⟩ := info_parts evInfo
  go_enter Try.func9, Try.ntmps9
  go_wp2_with fail
  go_loopw [3, 4] (fun m i wr => ∃ (k : Nat) (ms : List Ev), k ≤ xs.length ∧ i = .int .i64 k ∧ Below w.heap.size w wr ∧ wr.ownsRow w.heap.size 40 5 m ms.length (ms.flatMap Ev.enc) ∧ EvsOk ms ∧ ms.length ≤ k) (fun _ i _ => xs.length - (intOf i).toNat)
  case atStart => exact ⟨0, [], by omega, rfl, Below.refl _ _, World.ownsRow_nil _ _ _ _, fun k hk => absurd hk (by simp), by simp⟩
  case round =>
    obtain ⟨k, ms, hk, rfl, hB, hrow, hwm, hml⟩ := hrel
    obtain ⟨Am, cm, hm⟩ := row_slice hrow
    subst hm
    have hxr := hx.up hB
    by_cases hlt : k < xs.length
    · go_wp2_with fail
      refine (number_any _ capr xs _ _ _ hxr hwx (by omega) (by omega) (by omega)).mono ?_; rintro e wa ⟨rfl, hbn⟩
      obtain ⟨n1, hn1⟩ : ∃ n, n = numAt xs (k : Int).toNat 2000 := ⟨_, rfl⟩
      rw [← hn1]
      have rn1 : 0 ≤ n1 ∧ n1 < 2000 := by rw [hn1]; exact numAt_rng (by omega)
      clear hn1
      replace hB := below_next hB hbn
      replace hrow := row_below1 hrow hbn
      clear hbn hxr
      obtain ⟨m9, hm9⟩ : ∃ m : Nat, (m : Int) = n1 % 9 := ⟨(n1 % 9).toNat, by omega⟩
      have hm9l : m9 < 9 := by omega
      obtain ⟨hk9, hk1, hk2⟩ := kinds9_at m9 hm9l
      have hBlk := Blk.new wa 3 #[.int .i64 3, .int .i64 11, .int .i64 12, .int .i64 6, .int .i64 7, .int .i64 9, .int .i64 10, .int .i64 6, .int .i64 7]
      have hcell := (hBlk.cell m9).trans hk9
      obtain ⟨kd, hkd⟩ : ∃ x, x = kinds9.getD m9 0 := ⟨_, rfl⟩
      rw [← hkd] at hcell hk1 hk2
      have hmt : (n1 % 9).toNat = m9 := by omega
      clear hk9 hkd hBlk
      have hrowA := (hrow.alloc (.cells #[.int .i64 3, .int .i64 11, .int .i64 12, .int .i64 6, .int .i64 7, .int .i64 9, .int .i64 10, .int .i64 6, .int .i64 7] 3)).alloc (.cells #[.int .i64 kd, .int .i64 (n1 / 9 % 2), .int .i64 (n1 / 18 % 4), .int .i64 (n1 / 72 % 5), .int .i64 (n1 / 360 % 3)] 40)
      have hsz := hB.size
      have hBA := (hB.alloc hsz (.cells #[.int .i64 3, .int .i64 11, .int .i64 12, .int .i64 6, .int .i64 7, .int .i64 9, .int .i64 10, .int .i64 6, .int .i64 7] 3)).alloc (by simp; omega) (.cells #[.int .i64 kd, .int .i64 (n1 / 9 % 2), .int .i64 (n1 / 18 % 4), .int .i64 (n1 / 72 % 5), .int .i64 (n1 / 360 % 3)] 40)
      have hlow := hrow.lt
      clear hrow hB hm9
      go_wp2_with (first | (at_builtin; go_loud (refine wpList_append_own_at _ rfl _ _ 26 rfl w.heap.size 40 i0 (.agg #[.int .i64 0, .int .i64 0, .int .i64 0, .int .i64 0, .int .i64 0]) 5 40 Try.underlying26 hi0 hz0 hs0 hb0 rfl (by decide) _ _ _ rfl hrowA ⟨wa.heap.size + 1, 0, none⟩ 1 1 [.int .i64 kd, .int .i64 (n1 / 9 % 2), .int .i64 (n1 / 18 % 4), .int .i64 (n1 / 72 % 5), .int .i64 (n1 / 360 % 3)] rfl rfl ?c1 ?c2 ?c3 ?c4 ?c5 ?_)) | fail)
      case c1 => exact cells_new_at (by simp)
      case c2 => intro u hu; simp at hu; rcases hu with rfl | rfl | rfl | rfl | rfl <;> rfl
      case c3 => unfold maxLen; omega
      case c4 => omega
      case c5 => simp; omega
      intro v' w' hown' hgrow _ _
      have hB5 := below_grown hBA hgrow hBA.size (fun x e => (hlow x e).1)
      clear hgrow hBA hrowA hlow
      go_wp2
      go_roundw
      case rel => exact ⟨k + 1, ms ++ [⟨kd, n1 / 9 % 2, n1 / 18 % 4, n1 / 72 % 5, n1 / 360 % 3⟩], by omega, by go_num, hB5, by simpa [Ev.enc] using hown', by
        intro j hj
        by_cases hjm : j < ms.length
        · rw [List.getElem_append_left hjm]; exact hwm j hjm
        · rw [List.getElem_append_right (by omega)]; simp at hj; simp [show j - ms.length = 0 from by omega]; unfold EvOk; simp only; omega, by simp; omega⟩
      case measure => simp [intOf] <;> omega
    · obtain ⟨A', c', hv', hs7⟩ := sl_of_row (enc := Ev.enc) (fun _ => rfl) hrow (by omega)
      injection hv' with hv1 _ hv2
      subst hv1 hv2
      go_wp2
      go_ret
      exact ⟨⟨_, _, ms, rfl, hs7, hwm, by omega⟩, hB⟩

theorem ints_same {A A' : Option Addr} {cap cap' : Nat} {xs : List Int} {w : World} (hx : Sl encInt 1 w w.heap.size A xs) (hy : Sl encInt 1 w w.heap.size A' xs) :
    Calls Try.prog 12 #[.slice A xs.length cap, .slice A' xs.length cap'] w fun e w' => e = .returned (.bool true) ∧ Below w.heap.size w w' :=
  (ints_any A A' cap cap' xs xs w hx hy).mono fun _ _ ⟨h1, h2⟩ => ⟨by rw [h1]; simp, h2⟩
theorem cfgS {w' : World} {b0 : Nat} {c : Cfg} {p : CfgAt} (h : Blk w' b0 25 (cfgC c.workers c.levels c.classes c.tasks c.deque c.heap c.batch c.age c.patience (.slice p.pa c.progs.length p.pc) (.slice p.sa c.subs.length p.sc))) : w'.cell? ⟨b0, 0, none⟩ = some (.int .i64 c.workers) ∧ w'.cell? ⟨b0, 1, none⟩ = some (.int .i64 c.levels) ∧ w'.cell? ⟨b0, 2, none⟩ = some (.int .i64 c.classes) ∧ w'.cell? ⟨b0, 3, none⟩ = some (.int .i64 c.tasks) ∧ w'.cell? ⟨b0, 4, none⟩ = some (.int .i64 c.deque) ∧ w'.cell? ⟨b0, 5, none⟩ = some (.int .i64 c.heap) ∧ w'.cell? ⟨b0, 6, none⟩ = some (.int .i64 c.batch) ∧ w'.cell? ⟨b0, 7, none⟩ = some (.int .i64 c.age) ∧ w'.cell? ⟨b0, 8, none⟩ = some (.int .i64 c.patience) ∧ w'.cell? ⟨b0, 9, none⟩ = some (.slice p.pa c.progs.length p.pc) ∧ w'.cell? ⟨b0, 10, none⟩ = some (.slice p.sa c.subs.length p.sc) := ⟨h.cell 0, h.cell 1, h.cell 2, h.cell 3, h.cell 4, h.cell 5, h.cell 6, h.cell 7, h.cell 8, h.cell 9, h.cell 10⟩
theorem Sl.drew {α : Type} {enc : α → List Value} {sz : Nat} {w : World} {B : Nat} {A : Option Addr} {xs : List α} (h : Sl enc sz w B A xs) : Sl enc sz w.drew B A xs := h
set_option maxRecDepth 100000 in
set_option maxHeartbeats 4000000 in
theorem agreeI_any (c : Cfg) (p : CfgAt) (A : Option Addr) (cap : Nat) (l : List Ev) (w : World) (hc : CfgIn w w.heap.size c p) (hl : Sl Ev.enc 5 w w.heap.size A l) (hn : l.length ≤ 1000000) (hwf : EvsOk l) :
    Calls Try.prog 7 #[cfgV c p, .slice A l.length cap] w fun e w' => e = .returned (.bool true) ∧ Below w.heap.size w w' := by
  have hB0 : Below w.heap.size w (w.alloc (cfgBox c p)) := (Below.refl _ _).alloc (Nat.le_refl _) _
  have hK0 : Blk (w.alloc (cfgBox c p)) w.heap.size 25 (cfgC c.workers c.levels c.classes c.tasks c.deque c.heap c.batch c.age c.patience (.slice p.pa c.progs.length p.pc) (.slice p.sa c.subs.length p.sc)) := Blk.new _ _ _
  obtain ⟨b0, hb0⟩ : ∃ b, b = w.heap.size := ⟨_, rfl⟩
  unfold cfgV
  go_enter Try.func7, Try.ntmps7
  go_wp2_with fail
  refine (inhCheck_any c p A cap l _ (hc.up hB0) (hl.up hB0) hn hwf).mono ?_; rintro e w1 ⟨rfl, hb1⟩
  have hB1 := below_next hB0 hb1
  have hK1 := hK0.below hb1 hK0.lt
  clear hB0 hK0
  simp only [← hb0] at hK1 ⊢
  clear hb0
  have hcs := hK1.cell
  go_wp2_with fail
  clear hcs
  refine (refInhCheck_any c p A cap l _ (hc.up hB1) (hl.up hB1)).mono ?_; rintro e w2 ⟨rfl, hb2⟩
  have hB2 := below_next hB1 hb2
  have hK2 := hK1.below hb2 hK1.lt
  clear hB1 hK1 hb1 hb2
  obtain ⟨ka, hka⟩ : ∃ x, x = (chkOut c l).1 := ⟨_, rfl⟩
  obtain ⟨kb, hkb⟩ : ∃ x, x = (chkOut c l).2 := ⟨_, rfl⟩
  simp only [← hka, ← hkb]
  clear hka hkb
  go_wp2_with fail
  replace hB2 := hB2.drew
  replace hK2 : Blk w2.drew b0 25 (cfgC c.workers c.levels c.classes c.tasks c.deque c.heap c.batch c.age c.patience (.slice p.pa c.progs.length p.pc) (.slice p.sa c.subs.length p.sc)) := hK2
  have hcS := cfgS hK2
  go_region_held3 (fun w' => w'.cell? ⟨b0, 0, none⟩ = some (.int .i64 c.workers) ∧ w'.cell? ⟨b0, 1, none⟩ = some (.int .i64 c.levels) ∧ w'.cell? ⟨b0, 2, none⟩ = some (.int .i64 c.classes) ∧ w'.cell? ⟨b0, 3, none⟩ = some (.int .i64 c.tasks) ∧ w'.cell? ⟨b0, 4, none⟩ = some (.int .i64 c.deque) ∧ w'.cell? ⟨b0, 5, none⟩ = some (.int .i64 c.heap) ∧ w'.cell? ⟨b0, 6, none⟩ = some (.int .i64 c.batch) ∧ w'.cell? ⟨b0, 7, none⟩ = some (.int .i64 c.age) ∧ w'.cell? ⟨b0, 8, none⟩ = some (.int .i64 c.patience) ∧ w'.cell? ⟨b0, 9, none⟩ = some (.slice p.pa c.progs.length p.pc) ∧ w'.cell? ⟨b0, 10, none⟩ = some (.slice p.sa c.subs.length p.sc)) (exact cfgS (by first | assumption)) (first
    | (go_at_call 13; (with_reducible refine (inhFloors_any c p A cap l _ (hc.up hB2) (hl.up hB2) hn hwf).mono ?_); rintro e w3 ⟨⟨A3, q3, rfl, hs3⟩, hb3⟩; have hB3 := below_next hB2 hb3; have hK3 := hK2.below hb3 hK2.lt)
    | (go_at_call 16; (with_reducible refine (refInhFloors_any c p A cap l _ (hc.up hB3) (hl.up hB3)).mono ?_); rintro e w4 ⟨⟨A4, q4, rfl, hs4⟩, hb4⟩; have hB4 := below_next hB3 hb4; have hK4 := hK3.below hb4 hK3.lt; have hsp4 := hs3.up hb4)
    | (go_at_call 14; (with_reducible refine (inhLevels_any c p A cap l _ (hc.up hB5) (hl.up hB5) hn hwf).mono ?_); rintro e w6 ⟨⟨A6, q6, rfl, hs6⟩, hb6⟩; have hB6 := below_next hB5 hb6; have hK6 := hK5.below hb6 hK5.lt)
    | (go_at_call 17; (with_reducible refine (refInhLevels_any c p A cap l _ (hc.up hB6) (hl.up hB6)).mono ?_); rintro e w7 ⟨⟨A7, q7, rfl, hs7⟩, hb7⟩; have hB7 := below_next hB6 hb7; have hK7 := hK6.below hb7 hK6.lt; have hsp7 := hs6.up hb7)
    | (go_at_call 12; (with_reducible refine (ints_same hsp4 hs4).mono ?_); rintro e w5 ⟨rfl, hb5⟩; have hB5 := below_next hB4 hb5; have hK5 := hK4.below hb5 hK4.lt)
    | (go_at_call 12; (with_reducible refine (ints_same hsp7 hs7).mono ?_); rintro e w8 ⟨rfl, hb8⟩; have hB8 := below_next hB7 hb8; have hK8 := hK7.below hb8 hK7.lt))
  go_wp2
  go_ret
  exact ⟨rfl, by first | exact hB8 | assumption⟩
end Go.Proofs.Ytckgogiemfgdiaa
