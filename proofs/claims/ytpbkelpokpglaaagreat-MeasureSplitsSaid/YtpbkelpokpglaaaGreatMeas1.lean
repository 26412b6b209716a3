/- Walks: the checks of stamped events (measure and its reference), counts and latencies of the reference. -/
import Derived.Test.YtpbkelpokpglaaaGreatCfg3
set_option linter.all false
namespace Go.Proofs.YtpbkelpokpglaaaGreat
open Go.RowKit
def rngB (x : St) : Bool := decide (0 ≤ x.at_) && decide (x.at_ ≤ 1099511627776)
def atAt (l : List St) (i : Nat) : Int := (l[i]?.map (·.at_)).getD 0
theorem atAt_get {l : List St} {i : Nat} (h : i < l.length) : atAt l i = l[i].at_ := by simp [atAt, h]
def ordOk (l : List St) : Nat → Bool
  | 0 => true
  | k + 1 => ordOk l k && decide (k = 0 ∨ atAt l (k - 1) ≤ atAt l k)
def stErr (l : List St) : Int := if l.all rngB then (if ordOk l l.length then 0 else 5) else 1
def measErr (c : Cfg) (l : List St) : Int := if cfgErr c = 0 then stErr l else cfgErr c
theorem ordOk_bad {l : List St} : ∀ {n k : Nat}, ordOk l n = true → k < n → 0 < k → atAt l (k - 1) ≤ atAt l k
  | n + 1, k, h, hk, h0 => by
    simp only [ordOk, Bool.and_eq_true, decide_eq_true_eq] at h
    by_cases e : k = n
    · subst e; omega
    · exact ordOk_bad h.1 (by omega) h0
theorem stErr_rng {l : List St} {k : Nat} (hk : k < l.length) (h : rngB l[k] = false) : stErr l = 1 := by
  have : l.all rngB = false := by rw [List.all_eq_false]; exact ⟨_, List.getElem_mem hk, by simp [h]⟩
  simp [stErr, this]
theorem stErr_ord {l : List St} {k : Nat} (ha : l.all rngB = true) (hk : k < l.length) (h0 : 0 < k) (h : l[k].at_ < l[k - 1].at_) : stErr l = 5 := by
  have : ordOk l l.length = false := by
    by_cases g : ordOk l l.length = true
    · have := ordOk_bad g hk h0
      rw [atAt_get hk, atAt_get (by omega)] at this
      omega
    · simpa using g
  simp [stErr, ha, this]
theorem stErr_ok {l : List St} (ha : l.all rngB = true) (h : ordOk l l.length = true) : stErr l = 0 := by simp [stErr, ha, h]
theorem ordOk_next {l : List St} {k : Nat} (hk : k < l.length) (h0 : 0 < k) (h : ordOk l k = true) (hl : l[k - 1].at_ ≤ l[k].at_) : ordOk l (k + 1) = true := by
  simp only [ordOk, Bool.and_eq_true, decide_eq_true_eq]
  exact ⟨h, .inr (by rw [atAt_get hk, atAt_get (by omega)]; exact hl)⟩
def RngInv (l : List St) (k : Nat) : Prop := (l.take k).all rngB = true
theorem rng_all {l : List St} {k : Nat} (h : RngInv l k) (hk : l.length ≤ k) : l.all rngB = true := by
  have h' : (l.take k).all rngB = true := h
  rwa [List.take_of_length_le hk] at h'
theorem ordOk_le1 {l : List St} (h : l.length ≤ 1) : ordOk l l.length = true := by
  match l, h with
  | [], _ => rfl
  | [x], _ => rfl
def OrdInv (l : List St) (k : Nat) : Prop := l.all rngB = true ∧ ordOk l k = true
/-- An element of a slice of stamped events, cell by cell. -/
theorem st_cells {w : World} {B : Nat} {A : Option Addr} {l : List St} (h : Sl St.enc 6 w B A l) {i : Nat} (hi : i < l.length) : ∃ b o, A = some ⟨b, o, none⟩ ∧ b < B ∧
    ∀ (k : Nat) (hk : k < l.length), w.cell? ⟨b, o + k * 6, none⟩ = some (.int .i64 l[k].at_) ∧ w.cell? ⟨b, o + k * 6 + 1, none⟩ = some (.int .i64 l[k].ev.kind) ∧ w.cell? ⟨b, o + k * 6 + 2, none⟩ = some (.int .i64 l[k].ev.worker) ∧
      w.cell? ⟨b, o + k * 6 + 3, none⟩ = some (.int .i64 l[k].ev.task) ∧ w.cell? ⟨b, o + k * 6 + 4, none⟩ = some (.int .i64 l[k].ev.other) ∧ w.cell? ⟨b, o + k * 6 + 5, none⟩ = some (.int .i64 l[k].ev.level) := by
  obtain ⟨b, o, e, hb, hc⟩ := h.at_ hi
  exact ⟨b, o, e, hb, fun k hk => ⟨hc k hk 0 _ rfl, hc k hk 1 _ rfl, hc k hk 2 _ rfl, hc k hk 3 _ rfl, hc k hk 4 _ rfl, hc k hk 5 _ rfl⟩⟩
end Go.Proofs.YtpbkelpokpglaaaGreat
