/- Walks: small functions of the references (Draw) and of the statements' helpers (Short, Number). -/
import Derived.Test.YtckgogiemfgdiaaRows
import Derived.Test.YtckgogiemfgdiaaBase
namespace Go.Proofs.Ytckgogiemfgdiaa
open Go.RowKit

/-- Element i, 0 behind the end. -/
def ati (xs : List Int) (i : Nat) : Int := xs.getD i 0
theorem ati_get {xs : List Int} {i : Nat} (h : i < xs.length) : ati xs i = xs[i] := by simp [ati, List.getD, h]
theorem int_cell {w : World} {B : Nat} {A : Option Addr} {xs : List Int} (h : Sl encInt 1 w B A xs) {i : Nat} (hi : i < xs.length) : ∃ b o, A = some ⟨b, o, none⟩ ∧ b < B ∧
    ∀ (k : Nat), k < xs.length → w.cell? ⟨b, o + k, none⟩ = some (.int .i64 (ati xs k)) := by
  obtain ⟨b, o, e, hb, hc⟩ := h.at_ hi
  refine ⟨b, o, e, hb, fun k hk => ?_⟩
  rw [ati_get hk]
  have h := hc k hk 0 _ rfl
  rw [Nat.mul_one] at h
  exact h
/-- Every element fits an int. -/
def IntsWf (xs : List Int) : Prop := ∀ i, -9223372036854775808 ≤ ati xs i ∧ ati xs i ≤ 9223372036854775807

def drawM (d n : Int) : Int := if n < 1 then 0 else d % n
theorem drawM_rng {d n : Int} (h : 1 ≤ n) : 0 ≤ drawM d n ∧ drawM d n < n := by
  unfold drawM; rw [if_neg (by omega)]; exact ⟨Int.emod_nonneg _ (by omega), Int.emod_lt_of_pos _ (by omega)⟩

theorem emod_of {d n q r : Int} (hd : d = n * q + r) (h0 : 0 ≤ r) (h1 : r < n) : d % n = r := by
  rw [hd, Int.add_comm, Int.add_mul_emod_self_left]; exact Int.emod_eq_of_lt h0 h1

set_option maxHeartbeats 1000000 in
theorem draw_any (d n : Int) (w : World) (hn2 : n ≤ 9223372036854775807) :
    Calls Try.prog 31 #[.int .i64 d, .int .i64 n] w fun e w' => e = .returned (.int .i64 (drawM d n)) ∧ w = w' := by
  by_cases hn : n < 1
  · have hf : Hid (drawM d n = 0) := by unfold drawM; exact if_pos hn
    go_enter Try.func31, Try.ntmps31
    go_wp2
    go_ret
    exact ⟨ret_int hf.out.symm, rfl⟩
  · have hp : 0 < n := by omega
    have hm := Int.tmod_lt_of_pos d hp
    have hm2 : -n < d.tmod n := by
      have := Int.tmod_lt_of_pos (-d) hp
      rw [Int.neg_tmod] at this; omega
    have hd := Int.mul_tdiv_add_tmod d n
    by_cases hneg : d.tmod n < 0
    · have hf : Hid (drawM d n = d.tmod n + n) := by
        show drawM d n = _
        unfold drawM; rw [if_neg hn]
        exact emod_of (q := d.tdiv n - 1) (by rw [Int.mul_sub]; omega) (by omega) (by omega)
      clear hd
      go_enter Try.func31, Try.ntmps31
      go_wp2
      go_ret
      exact ⟨ret_int hf.out.symm, rfl⟩
    · have hf : Hid (drawM d n = d.tmod n) := by
        show drawM d n = _
        unfold drawM; rw [if_neg hn]
        exact emod_of (q := d.tdiv n) (by omega) (by omega) (by omega)
      clear hd
      go_enter Try.func31, Try.ntmps31
      go_wp2
      go_ret
      exact ⟨ret_int hf.out.symm, rfl⟩

def encSl (x : Option Addr × Nat × Nat) : List Value := [.slice x.1 x.2.1 x.2.2]
def shortB (n : Nat) (ls : List (Option Addr × Nat × Nat)) : Bool := ls.all (fun x => decide (x.2.1 ≤ 400)) && decide (n ≤ 400)
def ShortInv (ls : List (Option Addr × Nat × Nat)) (k : Nat) : Prop := (ls.take k).all (fun x => decide (x.2.1 ≤ 400)) = true

set_option maxHeartbeats 1000000 in
theorem short_any (A A' : Option Addr) (n cap cap' : Nat) (ls : List (Option Addr × Nat × Nat)) (w : World) (hl : Sl encSl 1 w w.heap.size A' ls) (hlen : ∀ x ∈ ls, x.2.1 ≤ 9223372036854775807) (hn : n ≤ 9223372036854775807) :
    Calls Try.prog 5 #[.slice A n cap, .slice A' ls.length cap'] w fun e w' => e = .returned (.bool (shortB n ls)) ∧ w = w' := by
  have hln := hl.len
  go_enter Try.func5, Try.ntmps5
  go_wp2
  go_loop [5] (fun i => ∃ k : Nat, k ≤ ls.length ∧ i = .int .i64 k ∧ ShortInv ls k) (fun i => ls.length - (intOf i).toNat)
  case atStart => exact ⟨0, Nat.zero_le _, rfl, by simp [ShortInv]⟩
  case round =>
    obtain ⟨k, hk, rfl, hi⟩ := hrel
    by_cases hlt : k < ls.length
    · obtain ⟨b, o, rfl, hbb, hcc⟩ := hl.at_ hlt
      have c0 : w.cell? ⟨b, o + k, none⟩ = some (.slice ls[k].1 ls[k].2.1 ls[k].2.2) := by
        have h := hcc k hlt 0 _ rfl
        rw [Nat.mul_one] at h
        exact h
      have hll := hlen _ (List.getElem_mem hlt)
      by_cases hg : 400 < ls[k].2.1
      · have hres : Hid (shortB n ls = false) := by
          show shortB n ls = false
          unfold shortB
          have : ls.all (fun x => decide (x.2.1 ≤ 400)) = false := by rw [List.all_eq_false]; exact ⟨_, List.getElem_mem hlt, by simp; omega⟩
          rw [this]; rfl
        go_wp2
        go_ret
        exact ⟨ret_bool hres.out.symm, rfl⟩
      · go_wp2
        go_round
        case rel => exact ⟨k + 1, by omega, by go_num, by
          have hi' : (ls.take k).all (fun x => decide (x.2.1 ≤ 400)) = true := hi
          show (ls.take (k + 1)).all _ = true
          rw [List.take_succ_eq_append_getElem hlt, List.all_append, hi']; simp; omega⟩
        case measure => simp [intOf] <;> omega
    · have hres : Hid (shortB n ls = decide (n ≤ 400)) := by
        have hi' : (ls.take k).all (fun x => decide (x.2.1 ≤ 400)) = true := hi
        rw [List.take_of_length_le (by omega)] at hi'
        show shortB n ls = _
        unfold shortB; rw [hi']; rfl
      go_wp2
      go_ret
      exact ⟨ret_bool (by rw [hres.out]; simp only [decide_eq_decide]; omega), rfl⟩

theorem tdiv_bd {x d : Int} (h1 : -9223372036854775808 ≤ x) (h2 : x ≤ 9223372036854775807) (hd : 1 ≤ d) : -9223372036854775808 ≤ x.tdiv d ∧ x.tdiv d ≤ 9223372036854775807 := by
  by_cases h0 : 0 ≤ x
  · rw [Int.tdiv_eq_ediv_of_nonneg h0]
    have := Int.ediv_le_self d h0
    have := Int.ediv_nonneg h0 (show 0 ≤ d by omega)
    omega
  · have e : x.tdiv d = - ((-x).tdiv d) := by rw [Int.neg_tdiv, Int.neg_neg]
    rw [e, Int.tdiv_eq_ediv_of_nonneg (show 0 ≤ -x by omega)]
    have := Int.ediv_le_self d (show 0 ≤ -x by omega)
    have := Int.ediv_nonneg (show 0 ≤ -x by omega) (show 0 ≤ d by omega)
    omega

def numAt (xs : List Int) (i : Nat) (n : Int) : Int := if xs = [] then 0 else drawM ((ati xs (i % xs.length)).tdiv (1 + ((i / xs.length : Nat) : Int) % 7)) n
theorem numAt_rng {xs : List Int} {i : Nat} {n : Int} (h : 1 ≤ n) : 0 ≤ numAt xs i n ∧ numAt xs i n < n := by
  unfold numAt; split
  · omega
  · exact drawM_rng h

set_option maxHeartbeats 1000000 in
theorem number_any (A : Option Addr) (cap : Nat) (xs : List Int) (i n : Int) (w : World) (hx : Sl encInt 1 w w.heap.size A xs) (hwf : IntsWf xs) (h0 : 0 ≤ i) (h1 : i ≤ 9223372036854775807) (hn2 : n ≤ 9223372036854775807) :
    Calls Try.prog 19 #[.slice A xs.length cap, .int .i64 i, .int .i64 n] w fun e w' => e = .returned (.int .i64 (numAt xs i.toNat n)) ∧ Below w.heap.size w w' := by
  have hlx := hx.len
  by_cases hnil : xs = []
  · have hf : Hid (numAt xs i.toNat n = 0) := if_pos hnil
    have hl : ((xs.length : Int) == 0) = true := by simp [hnil]
    clear hnil
    go_enter Try.func19, Try.ntmps19
    go_wp2
    go_ret
    exact ⟨ret_int hf.out.symm, Below.refl _ _⟩
  · have hf : Hid (numAt xs i.toNat n = drawM ((ati xs (i.toNat % xs.length)).tdiv (1 + ((i.toNat / xs.length : Nat) : Int) % 7)) n) := if_neg hnil
    have hpos : 0 < xs.length := List.length_pos_iff.2 hnil
    have hl : ((xs.length : Int) == 0) = false := by simp; exact hnil
    obtain ⟨m, rfl⟩ := Int.eq_ofNat_of_zero_le h0
    simp only [Int.toNat_natCast] at hf ⊢
    clear hnil
    obtain ⟨b, o, rfl, hbb, hcc⟩ := int_cell hx hpos
    have hml : m % xs.length < xs.length := Nat.mod_lt _ hpos
    have c0 := hcc (m % xs.length) hml
    have hw := hwf (m % xs.length)
    have hidx : ((m : Int) % (xs.length : Int)).toNat = m % xs.length := by omega
    have e1 : 0 ≤ (m : Int) % (xs.length : Int) := Int.emod_nonneg _ (by omega)
    have e2 : (m : Int) % (xs.length : Int) < (xs.length : Int) := Int.emod_lt_of_pos _ (by omega)
    have e3 : 0 ≤ (m : Int) / (xs.length : Int) := Int.ediv_nonneg (by omega) (by omega)
    have e4 : 0 ≤ (m : Int) / (xs.length : Int) % 7 := Int.emod_nonneg _ (by omega)
    have e5 : (m : Int) / (xs.length : Int) % 7 < 7 := Int.emod_lt_of_pos _ (by omega)
    have e6 : (m : Int) / (xs.length : Int) ≤ 9223372036854775807 := by
      have := Int.ediv_le_self (a := (m : Int)) (xs.length : Int) (by omega)
      omega
    obtain ⟨e7, e8⟩ := tdiv_bd hw.1 hw.2 (show 1 ≤ 1 + (m : Int) / (xs.length : Int) % 7 by omega)
    go_enter Try.func19, Try.ntmps19
    go_wp2
    go_quiet ((go_at_call 31; exact quiet_left (draw_any _ _ _ hn2)))
    go_wp2
    go_ret
    exact ⟨ret_int (by rw [hf.out]; simp), below_drewN (Below.refl _ _) _⟩
end Go.Proofs.Ytckgogiemfgdiaa
