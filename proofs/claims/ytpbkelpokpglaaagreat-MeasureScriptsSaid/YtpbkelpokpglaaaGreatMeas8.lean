/- Walks: the greatest share, by measure and by its reference; two lists of numbers held against each other. -/
import Derived.Test.YtpbkelpokpglaaaGreatMeas7
import Derived.Test.YtpbkelpokpglaaaGreatKeep1
set_option linter.all false
namespace Go.Proofs.YtpbkelpokpglaaaGreat
open Go.RowKit
def gI (xs : List Int) : Nat → Nat
  | 0 => 0
  | k + 1 => if ati xs (gI xs k) < ati xs k then k else gI xs k
theorem gI_lt (xs : List Int) : ∀ k, gI xs k ≤ k
  | 0 => Nat.le_refl _
  | k + 1 => by have := gI_lt xs k; simp only [gI]; split <;> omega
theorem gI_yes {xs : List Int} {k : Nat} (h : ati xs (gI xs k) < ati xs k) : gI xs (k + 1) = k := by simp only [gI]; rw [if_pos h]
theorem gI_no {xs : List Int} {k : Nat} (h : ¬ ati xs (gI xs k) < ati xs k) : gI xs (k + 1) = gI xs k := by simp only [gI]; rw [if_neg h]
set_option maxHeartbeats 1000000 in
theorem greatest_any (A : Option Addr) (cap : Nat) (xs : List Int) (w : World) (hl : Sl encInt 1 w w.heap.size A xs) :
    Calls Tryz.prog 59 #[.slice A xs.length cap] w fun e w' => e = .returned (.int .i64 (gI xs xs.length)) ∧ Below w.heap.size w w' := by
  have hlen := hl.len
  go_enter Tryz.func59, Tryz.ntmps59
  go_wp2
  go_loopw [8, 3] (fun i r wr => ∃ k : Nat, k ≤ xs.length ∧ i = .int .i64 k ∧ r = .int .i64 (gI xs k) ∧ Below w.heap.size w wr) (fun i _ _ => xs.length - (intOf i).toNat)
  case atStart => exact ⟨0, Nat.zero_le _, rfl, rfl, Below.refl _ _⟩
  case round =>
    obtain ⟨k, hk, rfl, rfl, hb⟩ := hrel
    obtain ⟨hcs, hfz⟩ := bcell hb
    by_cases hlt : k < xs.length
    · obtain ⟨b, o, rfl, hbb, hcc⟩ := int_cell hl hlt
      have c0 := hcc k hlt
      have hg := gI_lt xs k
      have c1 := hcc (gI xs k) (by omega)
      by_cases hx : ati xs (gI xs k) < ati xs k
      · have hy := Lib.hid (gI_yes hx)
        go_wp2
        go_roundw
        case rel => exact ⟨k + 1, by omega, by go_num, by rw [hy.out], hb⟩
        case measure => simp [intOf] <;> omega
      · have hy := Lib.hid (gI_no hx)
        go_wp2
        go_roundw
        case rel => exact ⟨k + 1, by omega, by go_num, by rw [hy.out], hb⟩
        case measure => simp [intOf] <;> omega
    · have e : k = xs.length := by omega
      subst e
      go_wp2
      go_ret
      exact ⟨rfl, hb⟩
def shL (c : Cfg) (l : List St) : List Int := (List.range c.workers.toNat).map fun j => (shF l l.length j : Int)
theorem shL_len (c : Cfg) (l : List St) : (shL c l).length = c.workers.toNat := by simp [shL]
theorem sl_of_blk {c : Cfg} {l : List St} {w : World} {g : Nat} (h : Blk w g 3 (shArr c l l.length)) (hn : c.workers ≤ 16) : Sl encInt 1 w w.heap.size (some ⟨g, 0, none⟩) (shL c l) := by
  refine ⟨by rw [shL_len]; omega, fun _ => ⟨g, 0, rfl, h.lt, fun i x hx j u hu => ?_⟩⟩
  have hi : i < c.workers.toNat := by
    have := List.getElem?_eq_some_iff.1 hx
    obtain ⟨hlt, _⟩ := this
    rwa [shL_len] at hlt
  have hxv : x = (shF l l.length i : Int) := by
    simp [shL, hi] at hx; exact hx.symm
  subst hxv
  match j, hu with
  | 0, hu =>
    have : u = .int .i64 (shF l l.length i : Int) := by simpa [encInt] using hu.symm
    subst this
    have := (h.cell i).trans (shArr_get c l l.length hi)
    simpa using this
set_option maxHeartbeats 1000000 in
theorem busiest_err (c : Cfg) (p : CfgAt) (A : Option Addr) (cap : Nat) (l : List St) (w : World) (hc : CfgIn w w.heap.size c p) (hl : Sl St.enc 6 w w.heap.size A l) (he : measErr c l ≠ 0) :
    Calls Tryz.prog 32 #[cfgV c p, .slice A l.length cap] w fun e w' => e = .returned (.tuple #[.int .i64 0, .int .i64 (measErr c l)]) ∧ Below w.heap.size w w' := by
  have hb0 : Below w.heap.size w (w.alloc (cfgBox c p)) := (Below.refl _ _).alloc (Nat.le_refl _) _
  have Hcall := fun W h1 h2 => Lib.hid (shares_err c p A cap l W h1 h2 he)
  have he' : (measErr c l == 0) = false := by simpa using he
  clear he
  unfold cfgV
  go_enter Tryz.func32, Tryz.ntmps32
  go_wp2_with fail
  refine (Hcall _ (hc.up hb0) (hl.up hb0)).out.mono ?_; rintro e w1 ⟨rfl, hb1⟩
  have hw1 := below_box1 hb1
  go_wp2_with fail
  go_ret2
  exact ⟨rfl, hw1⟩
set_option maxHeartbeats 1000000 in
theorem busiest_ok (c : Cfg) (p : CfgAt) (A : Option Addr) (cap : Nat) (l : List St) (w : World) (hc : CfgIn w w.heap.size c p) (hl : Sl St.enc 6 w w.heap.size A l) (hn : l.length ≤ 1048576) (he : measErr c l = 0) :
    Calls Tryz.prog 32 #[cfgV c p, .slice A l.length cap] w fun e w' => e = .returned (.tuple #[.int .i64 (gI (shL c l) (shL c l).length), .int .i64 0]) ∧ Below w.heap.size w w' := by
  have hb0 : Below w.heap.size w (w.alloc (cfgBox c p)) := (Below.refl _ _).alloc (Nat.le_refl _) _
  have hw := workers_of he
  have Hcall := fun W h1 h2 => Lib.hid (shares_ok c p A cap l W h1 h2 hn he)
  clear he
  unfold cfgV
  go_enter Tryz.func32, Tryz.ntmps32
  go_wp2_with fail
  refine (Hcall _ (hc.up hb0) (hl.up hb0)).out.mono ?_; rintro e w1 ⟨⟨g, rfl, hg, hblk⟩, hb1⟩
  have hw1 := below_box1 hb1
  rw [← shL_len c l]
  go_wp2_with fail
  refine (greatest_any _ _ _ _ (sl_of_blk hblk hw.2)).mono ?_; rintro e w2 ⟨rfl, hb2⟩
  go_wp2_with fail
  go_ret2
  exact ⟨rfl, below_next hw1 hb2⟩
set_option maxHeartbeats 1000000 in
theorem refBusiest_err (c : Cfg) (p : CfgAt) (A : Option Addr) (cap : Nat) (l : List St) (w : World) (hc : CfgIn w w.heap.size c p) (hl : Sl St.enc 6 w w.heap.size A l) (he : measErr c l ≠ 0) :
    Calls Tryz.prog 36 #[cfgV c p, .slice A l.length cap] w fun e w' => e = .returned (.tuple #[.int .i64 0, .int .i64 (measErr c l)]) ∧ Below w.heap.size w w' := by
  have hb0 : Below w.heap.size w (w.alloc (cfgBox c p)) := (Below.refl _ _).alloc (Nat.le_refl _) _
  have Hcall := fun W h1 h2 => Lib.hid (refShares_err c p A cap l W h1 h2 he)
  have he' : (measErr c l == 0) = false := by simpa using he
  clear he
  unfold cfgV
  go_enter Tryz.func36, Tryz.ntmps36
  go_wp2_with fail
  refine (Hcall _ (hc.up hb0) (hl.up hb0)).out.mono ?_; rintro e w1 ⟨rfl, hb1⟩
  have hw1 := below_box1 hb1
  go_wp2_with fail
  go_ret2
  exact ⟨rfl, hw1⟩
set_option maxHeartbeats 2000000 in
theorem refBusiest_ok (c : Cfg) (p : CfgAt) (A : Option Addr) (cap : Nat) (l : List St) (w : World) (hc : CfgIn w w.heap.size c p) (hl : Sl St.enc 6 w w.heap.size A l) (hn : l.length ≤ 1048576) (he : measErr c l = 0) :
    Calls Tryz.prog 36 #[cfgV c p, .slice A l.length cap] w fun e w' => e = .returned (.tuple #[.int .i64 (gI (shL c l) (shL c l).length), .int .i64 0]) ∧ Below w.heap.size w w' := by
  have hb0 : Below w.heap.size w (w.alloc (cfgBox c p)) := (Below.refl _ _).alloc (Nat.le_refl _) _
  have hw := workers_of he
  have Hcall := fun W h1 h2 => Lib.hid (refShares_ok c p A cap l W h1 h2 hn he)
  clear he
  unfold cfgV
  go_enter Tryz.func36, Tryz.ntmps36
  go_wp2_with fail
  refine (Hcall _ (hc.up hb0) (hl.up hb0)).out.mono ?_; rintro e w1 ⟨⟨g, rfl, hg, hblk⟩, hb1⟩
  have hw1 := below_box1 hb1
  rw [← shL_len c l]
  have hsl := sl_of_blk hblk hw.2
  obtain ⟨xs, hxs⟩ : ∃ xs, xs = shL c l := ⟨_, rfl⟩
  rw [← hxs] at hsl ⊢
  have hlen := hsl.len
  have hxl : xs.length ≤ 16 := by rw [hxs, shL_len]; omega
  have Hxs := Lib.hid hxs
  clear hxs hblk
  go_wp2_with fail
  go_loopw [9, 8] (fun i r wr => ∃ k : Nat, k ≤ xs.length ∧ i = .int .i64 k ∧ r = .int .i64 (gI xs k) ∧ Below w1.heap.size w1 wr) (fun i _ _ => xs.length - (intOf i).toNat)
  case atStart => exact ⟨0, Nat.zero_le _, rfl, rfl, Below.refl _ _⟩
  case round =>
    obtain ⟨k, hk, rfl, rfl, hb⟩ := hrel
    obtain ⟨hcs, hfz⟩ := bcell hb
    by_cases hlt : k < xs.length
    · obtain ⟨b, o, hA, hbb, hcc⟩ := int_cell hsl hlt
      injection hA with hA
      injection hA with hA1 hA2 _
      subst hA1 hA2
      have c0 := hcc k hlt
      have hg := gI_lt xs k
      have c1 := hcc (gI xs k) (by omega)
      simp only [Nat.zero_add] at c0 c1
      by_cases hx : ati xs (gI xs k) < ati xs k
      · have hy := Lib.hid (gI_yes hx)
        go_wp2
        go_quiet (fail)
        go_wp2
        go_roundw
        case rel => exact ⟨k + 1, by omega, by go_num, by rw [hy.out], below_drewN hb _⟩
        case measure => simp [intOf] <;> omega
      · have hy := Lib.hid (gI_no hx)
        go_wp2
        go_quiet (fail)
        go_wp2
        go_roundw
        case rel => exact ⟨k + 1, by omega, by go_num, by rw [hy.out], below_drewN hb _⟩
        case measure => simp [intOf] <;> omega
    · have e : k = xs.length := by omega
      subst e
      go_wp2
      go_ret2
      exact ⟨by rw [← Hxs.out]; rfl, below_next hw1 hb⟩
/-! ### Two lists of numbers -/
def eqTo (xs ys : List Int) (k : Nat) : Prop := ∀ i, i < k → ati xs i = ati ys i
theorem eqTo_all {xs ys : List Int} (hl : xs.length = ys.length) (h : eqTo xs ys xs.length) : xs = ys := by
  apply List.ext_getElem hl
  intro i h1 h2
  have := h i h1
  rwa [ati_get h1, ati_get h2] at this
theorem eqTo_ne {xs ys : List Int} {k : Nat} (hk : k < xs.length) (hl : xs.length = ys.length) (h : ¬ ati xs k = ati ys k) : xs ≠ ys := by
  rintro rfl; exact h rfl
theorem eqTo_next {xs ys : List Int} {k : Nat} (h : eqTo xs ys k) (hx : ati xs k = ati ys k) : eqTo xs ys (k + 1) := fun i hi => by
  by_cases e : i = k
  · subst e; exact hx
  · exact h i (by omega)
set_option maxHeartbeats 2000000 in
theorem ints_any (A A' : Option Addr) (cap cap' : Nat) (xs ys : List Int) (w : World) (hx : Sl encInt 1 w w.heap.size A xs) (hy : Sl encInt 1 w w.heap.size A' ys) :
    Calls Tryz.prog 33 #[.slice A xs.length cap, .slice A' ys.length cap'] w fun e w' => e = .returned (.bool (decide (xs = ys))) ∧ Below w.heap.size w w' := by
  have hlx := hx.len
  have hly := hy.len
  by_cases hl : xs.length = ys.length
  · have t1 : ((xs.length : Int) != (ys.length : Int)) = false := by simp; omega
    have Hl := Lib.hid hl
    go_enter Tryz.func33, Tryz.ntmps33
    clear hl
    go_wp2
    go_loopw [5] (fun i wr => ∃ k : Nat, k ≤ xs.length ∧ i = .int .i64 k ∧ eqTo xs ys k ∧ Below w.heap.size w wr) (fun i _ => xs.length - (intOf i).toNat)
    case atStart => exact ⟨0, Nat.zero_le _, rfl, fun i hi => absurd hi (by omega), Below.refl _ _⟩
    case round =>
      obtain ⟨k, hk, rfl, he, hb⟩ := hrel
      obtain ⟨hcs, hfz⟩ := bcell hb
      by_cases hlt : k < xs.length
      · have hlt2 : k < ys.length := by have := Hl.out; omega
        obtain ⟨b, o, rfl, hbb, hcc⟩ := int_cell hx hlt
        obtain ⟨b2, o2, rfl, hbb2, hcc2⟩ := int_cell hy hlt2
        have c0 := hcc k hlt
        have c1 := hcc2 k hlt2
        by_cases hxy : ati xs k = ati ys k
        · have t2 : (ati xs k != ati ys k) = false := by simp [hxy]
          have hn := eqTo_next he hxy
          clear hxy
          go_wp2
          go_quiet (fail)
          go_wp2
          go_roundw
          case rel => exact ⟨k + 1, by omega, by go_num, hn, below_drewN hb _⟩
          case measure => simp [intOf] <;> omega
        · have t2 : (ati xs k != ati ys k) = true := by simpa using hxy
          have hn := Lib.hid (eqTo_ne hlt Hl.out hxy)
          clear hxy
          go_wp2
          go_quiet (fail)
          go_wp2
          go_ret
          exact ⟨ret_bool (by simp [hn.out]), below_drewN hb _⟩
      · have e : k = xs.length := by omega
        subst e
        have hn := Lib.hid (eqTo_all Hl.out he)
        go_wp2
        go_ret
        exact ⟨ret_bool (by simp [hn.out]), hb⟩
  · have t1 : ((xs.length : Int) != (ys.length : Int)) = true := by simp; omega
    have hn : Hid (xs ≠ ys) := fun e => hl (by rw [e])
    clear hl
    go_enter Tryz.func33, Tryz.ntmps33
    go_wp2
    go_ret
    exact ⟨ret_bool (by simp [hn.out]), Below.refl _ _⟩
end Go.Proofs.YtpbkelpokpglaaaGreat
