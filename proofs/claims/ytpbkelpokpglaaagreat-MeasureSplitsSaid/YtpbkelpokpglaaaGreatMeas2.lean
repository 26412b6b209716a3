/- Walks: counts and latencies of the reference of measure; lists of numbers held against each other; the greatest share. -/
import Derived.Test.YtpbkelpokpglaaaGreatMeas1
set_option linter.all false
namespace Go.Proofs.YtpbkelpokpglaaaGreat
open Go.RowKit
def cnt (l : List St) (k : Int) : Nat := l.countP (fun s => s.ev.kind == k)
theorem cnt_le (l : List St) (k : Int) : cnt l k ≤ l.length := List.countP_le_length
theorem cnt_take_le (l : List St) (k : Int) (j : Nat) : cnt (l.take j) k ≤ j := Nat.le_trans (cnt_le _ _) (List.length_take_le _ _)
theorem cnt_snoc (l : List St) (k : Int) (j : Nat) (h : j < l.length) : cnt (l.take (j+1)) k = cnt (l.take j) k + if l[j].ev.kind == k then 1 else 0 := by
  unfold cnt; rw [List.take_succ_eq_append_getElem h, List.countP_append]; simp [List.countP_cons]
def bornAt (l : List St) (t : Int) : Nat → Option Int
  | 0 => none
  | k + 1 => match l[k]? with
    | some x => if (x.ev.kind = 1 ∨ x.ev.kind = 3) ∧ x.ev.task = t then some x.at_ else bornAt l t k
    | none => bornAt l t k
theorem bornAt_hit {l : List St} {t : Int} {k : Nat} (hk : k < l.length) (h : l[k].ev.kind = 1 ∨ l[k].ev.kind = 3) (ht : l[k].ev.task = t) : bornAt l t (k + 1) = some l[k].at_ := by
  simp [bornAt, hk, h, ht]
theorem bornAt_miss {l : List St} {t : Int} {k : Nat} (hk : k < l.length) (h : ¬ ((l[k].ev.kind = 1 ∨ l[k].ev.kind = 3) ∧ l[k].ev.task = t)) : bornAt l t (k + 1) = bornAt l t k := by
  simp [bornAt, hk, h]
def latAt (l : List St) (i : Nat) : Option Int := match l[i]? with
  | some x => if x.ev.kind = 5 then (bornAt l x.ev.task i).map (x.at_ - ·) else none
  | none => none
theorem latAt_not {l : List St} {i : Nat} (hi : i < l.length) (h : l[i].ev.kind ≠ 5) : latAt l i = none := by simp [latAt, hi, h]
theorem latAt_some {l : List St} {i : Nat} (hi : i < l.length) (h : l[i].ev.kind = 5) {v : Int} (hb : bornAt l l[i].ev.task i = some v) : latAt l i = some (l[i].at_ - v) := by simp [latAt, hi, h, hb]
theorem latAt_none {l : List St} {i : Nat} (hi : i < l.length) (h : l[i].ev.kind = 5) (hb : bornAt l l[i].ev.task i = none) : latAt l i = none := by simp [latAt, hi, h, hb]
def RngAll (l : List St) : Prop := ∀ (k : Nat) (hk : k < l.length), 0 ≤ l[k].at_ ∧ l[k].at_ ≤ 1099511627776
theorem rngAll_of {l : List St} (h : l.all rngB = true) : RngAll l := fun k hk => by
  have := List.all_eq_true.1 h _ (List.getElem_mem hk)
  simpa [rngB] using this
/-! ### The figures -/
def latSum (l : List St) : Nat → Int
  | 0 => 0
  | k + 1 => latSum l k + (latAt l k).getD 0
def latMax (l : List St) : Nat → Int
  | 0 => 0
  | k + 1 => match latAt l k with
    | some v => if latMax l k < v then v else latMax l k
    | none => latMax l k
theorem bornAt_rng {l : List St} (hr : RngAll l) {t v : Int} : ∀ {k : Nat}, bornAt l t k = some v → 0 ≤ v ∧ v ≤ 1099511627776
  | 0, h => by simp [bornAt] at h
  | k + 1, h => by
    by_cases hk : k < l.length
    · by_cases hh : (l[k].ev.kind = 1 ∨ l[k].ev.kind = 3) ∧ l[k].ev.task = t
      · rw [bornAt_hit hk hh.1 hh.2] at h
        have := hr k hk
        simp at h; omega
      · rw [bornAt_miss hk hh] at h; exact bornAt_rng hr h
    · simp only [bornAt] at h
      rw [List.getElem?_eq_none (by omega)] at h
      exact bornAt_rng hr h
theorem latAt_rng {l : List St} (hr : RngAll l) {k : Nat} {v : Int} (h : latAt l k = some v) : -1099511627776 ≤ v ∧ v ≤ 1099511627776 := by
  by_cases hk : k < l.length
  · by_cases h5 : l[k].ev.kind = 5
    · cases hb : bornAt l l[k].ev.task k with
      | none => rw [latAt_none hk h5 hb] at h; cases h
      | some u =>
        rw [latAt_some hk h5 hb] at h
        have h1 := bornAt_rng hr hb
        have h2 := hr k hk
        simp at h; omega
    · rw [latAt_not hk h5] at h; cases h
  · simp [latAt, List.getElem?_eq_none (show l.length ≤ k by omega)] at h
theorem latSum_rng {l : List St} (hr : RngAll l) : ∀ (k : Nat), -1099511627776 * (k : Int) ≤ latSum l k ∧ latSum l k ≤ 1099511627776 * (k : Int)
  | 0 => by simp [latSum]
  | k + 1 => by
    have ih := latSum_rng hr k
    simp only [latSum]
    cases h : latAt l k with
    | none => simp; omega
    | some v => have := latAt_rng hr h; simp; omega
theorem latMax_rng {l : List St} (hr : RngAll l) : ∀ (k : Nat), 0 ≤ latMax l k ∧ latMax l k ≤ 1099511627776
  | 0 => by simp [latMax]
  | k + 1 => by
    have ih := latMax_rng hr k
    simp only [latMax]
    cases h : latAt l k with
    | none => exact ih
    | some v => have := latAt_rng hr h; simp only; split <;> omega
@[reducible] def figV (l : List St) (k : Nat) : Value := .agg #[.int .i64 (cnt (l.take k) 1), .int .i64 (cnt (l.take k) 2), .int .i64 (cnt (l.take k) 3), .int .i64 (cnt (l.take k) 4), .int .i64 (cnt (l.take k) 5), .int .i64 (cnt (l.take k) 10),
  .int .i64 (cnt (l.take k) 14), .int .i64 (cnt (l.take k) 15), .int .i64 (cnt (l.take k) 11), .int .i64 (cnt (l.take k) 12), .int .i64 (cnt (l.take k) 16), .int .i64 (latSum l k), .int .i64 (latMax l k)]
@[reducible] def figZ : Value := .agg #[.int .i64 0, .int .i64 0, .int .i64 0, .int .i64 0, .int .i64 0, .int .i64 0, .int .i64 0, .int .i64 0, .int .i64 0, .int .i64 0, .int .i64 0, .int .i64 0, .int .i64 0]
/-- What Of answers. -/
def ofV (c : Cfg) (l : List St) : Value := if measErr c l = 0 then .tuple #[figV l l.length, .int .i64 0] else .tuple #[figZ, .int .i64 (measErr c l)]
theorem measErr_zero {c : Cfg} {l : List St} (h : measErr c l = 0) : cfgErr c = 0 ∧ RngAll l := by
  unfold measErr at h
  split at h
  · rename_i hc
    refine ⟨hc, rngAll_of ?_⟩
    unfold stErr at h
    split at h
    · assumption
    · omega
  · rename_i hc; exact absurd h hc
end Go.Proofs.YtpbkelpokpglaaaGreat
