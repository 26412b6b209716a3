/- Plain safety: what it means that an answer is there; numbers; the leaf functions always answer. The machines of the reference, said plainly: what a line does with the memory, the records, the events and its frame. No program occurs here. What the reference's functions answer is what was said plainly, 1. The machines of the reference, said plainly, 2: probing, choosing, entering, going back, a step. No program occurs here. -/
import Derived.Test.YtpbkelpokpglaaaGreatQn
import Derived.Test.YtpbkelpokpglaaaGreatQq
set_option linter.all false
namespace Go.Proofs.YtpbkelpokpglaaaGreat
section
open Go
def Good {α : Type} (o : Option α) (P : α → Prop) : Prop := ∃ x, o = some x ∧ P x
section
variable {α β : Type} {o : Option α} {P Q : α → Prop} {x : α}
theorem Good.some_ (h : P x) : Good (some x) P := ⟨x, rfl, h⟩
theorem Good.bind {f : α → Option β} {Q : β → Prop} (h : Good o P) (k : ∀ x, P x → Good (f x) Q) : Good (o.bind f) Q := by
  obtain ⟨x, rfl, hx⟩ := h
  exact k x hx
theorem Good.ite {c : Prop} [Decidable c] {a b : Option α} (h1 : c → Good a P) (h2 : ¬ c → Good b P) : Good (if c then a else b) P := by
  by_cases h : c
  · rw [if_pos h]; exact h1 h
  · rw [if_neg h]; exact h2 h
theorem Good.guard {c : Prop} [Decidable c] {a b : Option α} (h : c) (k : c → Good a P) : Good (if c then a else b) P := by rw [if_pos h]; exact k h
theorem Good.mono (h : Good o P) (k : ∀ x, P x → Q x) : Good o Q := by
  obtain ⟨x, e, hx⟩ := h
  exact ⟨x, e, k x hx⟩
end
/-- A number of 64 bits. -/
def Rg (x : Int) : Prop := -9223372036854775808 ≤ x ∧ x ≤ 9223372036854775807
theorem rg_wi (x : Int) : Rg (wi x) := by
  show -9223372036854775808 ≤ IntKind.i64.wrap x ∧ IntKind.i64.wrap x ≤ 9223372036854775807
  rw [IntKind.wrap_i64]; omega
theorem wi_id {x : Int} (h : Rg x) : wi x = x := w64 h.1 h.2
theorem rg_lit {x : Int} (h : -1000000000000 ≤ x ∧ x ≤ 1000000000000) : Rg x := by unfold Rg; omega
/-- Loops with much fuel. -/
theorem lpF_succ {σ β : Type} (F : (σ → Option β) → σ → Option β) (k : Nat) (x : σ) : lpF F (k + 1) x = F (lpF F k) x := rfl
/-! ### Accesses -/
def newV (k old v w : Int) : Int := if k = 2 then v else if k = 3 then (if old = v then w else old) else if k = 4 then orU old v else if k = 5 then andU old v else if k = 6 then wu (old + v) else old
def acc (m : MemV) (k a v w : Int) : (Int × Bool) × MemV :=
  if 0 ≤ a ∧ a < (m.cells.length : Int) then
    ((atK0 m.cells a, if k = 3 then decide (atK0 m.cells a = v) else true), ⟨m.cells.set a.toNat (newV k (atK0 m.cells a) v w), ⟨k, a, atK0 m.cells a, newV k (atK0 m.cells a) v w⟩, wi (m.count + 1)⟩)
  else ((0, false), m)
theorem r2acc_eq (m : MemV) (k a v w : Int) : r2acc m k a v w = some (((acc m k a v w).1.1, (acc m k a v w).1.2, ()), ((acc m k a v w).2, ())) := by
  unfold r2acc r2in acc
  by_cases h0 : 0 ≤ a
  · by_cases h1 : a < (m.cells.length : Int)
    · simp only [h0, h1, if_true, Option.bind_some, decide_true, Bool.not_true, Bool.false_eq_true, if_false, and_self]
      by_cases k2 : k = 2
      · subst k2; simp [newV]
      by_cases k3 : k = 3
      · subst k3
        by_cases hv : atK0 m.cells a = v <;> simp [newV, hv]
      by_cases k4 : k = 4
      · subst k4; simp [newV]
      by_cases k5 : k = 5
      · subst k5; simp [newV]
      by_cases k6 : k = 6
      · subst k6; simp [newV]
      simp [newV, k2, k3, k4, k5, k6]
    · simp [h0, h1]
  · simp [h0]
theorem acc_len (m : MemV) (k a v w : Int) : (acc m k a v w).2.cells.length = m.cells.length := by
  unfold acc; split <;> simp
/-- Reads nothing behind the memory. -/
theorem acc_ok {m : MemV} {k a v w : Int} (h : (acc m k a v w).1.2 = true) : 0 ≤ a ∧ a < (m.cells.length : Int) := by
  unfold acc at h; split at h
  · assumption
  · cases h
/-! ### The layout -/
def ixA (a b c d : Int) : Int := if b < 0 then -1 else if c ≤ b then -1 else wi (a + wi (b * d))
theorem r6index_eq (a b c d : Int) : r6index a b c d = some ((ixA a b c d, ()), ()) := by
  unfold r6index ixA; split
  · rfl
  · split <;> rfl
def dqA (c : Cfg) : Int := wi ((wi ((wi (4 + c.heap)) + c.classes)) + (wi (2 * c.workers)))
theorem r6deques_eq (c : Cfg) : r6deques c = some ((dqA c, ()), ()) := rfl
def qTop (c : Cfg) (a b : Int) : Int := wi (dqA c + (wi ((wi ((wi (a * c.levels)) + b)) * (wi (2 + c.deque)))))
def queueA (c : Cfg) (a b : Int) : QV := if a < 0 then ⟨-1, -1, -1, 0⟩ else if c.workers ≤ a then ⟨-1, -1, -1, 0⟩ else if b < 0 then ⟨-1, -1, -1, 0⟩ else if c.levels ≤ b then ⟨-1, -1, -1, 0⟩ else ⟨qTop c a b, wi (qTop c a b + 1), wi (qTop c a b + 2), c.deque⟩
theorem r6queue_eq (c : Cfg) (a b : Int) : r6queue c a b = some ((queueA c a b, ()), ()) := by
  unfold r6queue queueA
  simp only [r6deques_eq, Option.bind_some, if_true]
  repeat' split
  all_goals rfl
def taskA (c : Cfg) (a b : Int) : Int := if ixA (wi (dqA c + (wi ((wi (c.workers * c.levels)) * (wi (2 + c.deque)))))) a c.tasks 5 < 0 then -1 else wi (ixA (wi (dqA c + (wi ((wi (c.workers * c.levels)) * (wi (2 + c.deque)))))) a c.tasks 5 + b)
theorem r6task_eq (c : Cfg) (a b : Int) : r6task c a b = some ((taskA c a b, ()), ()) := by
  unfold r6task taskA
  simp only [r6deques_eq, r6index_eq, Option.bind_some, if_true]
  repeat' split
  all_goals rfl
theorem r6slot_eq (c : Cfg) (a : Int) : r6slot c a = some ((ixA 4 a c.heap 1, ()), ()) := by unfold r6slot; simp only [r6index_eq, Option.bind_some]
theorem r6state_eq (c : Cfg) (a : Int) : r6state c a = some ((taskA c a 0, ()), ()) := by unfold r6state; simp only [r6task_eq, Option.bind_some]
theorem r6level_eq (c : Cfg) (a : Int) : r6level c a = some ((taskA c a 1, ()), ()) := by unfold r6level; simp only [r6task_eq, Option.bind_some]
theorem r6join_eq (c : Cfg) (a : Int) : r6join c a = some ((taskA c a 2, ()), ()) := by unfold r6join; simp only [r6task_eq, Option.bind_some]
theorem r6waits_eq (c : Cfg) (a : Int) : r6waits c a = some ((taskA c a 3, ()), ()) := by unfold r6waits; simp only [r6task_eq, Option.bind_some]
theorem r6since_eq (c : Cfg) (a : Int) : r6since c a = some ((taskA c a 4, ()), ()) := by unfold r6since; simp only [r6task_eq, Option.bind_some]
def bitmapA (c : Cfg) (a : Int) : Int := ixA (wi ((wi ((wi (4 + c.heap)) + c.classes)) + c.workers)) a c.workers 1
theorem r6bitmap_eq (c : Cfg) (a : Int) : r6bitmap c a = some ((bitmapA c a, ()), ()) := by unfold r6bitmap; simp only [r6index_eq, Option.bind_some]; rfl
def cellsA (c : Cfg) : Int := wi ((wi (dqA c + (wi ((wi (c.workers * c.levels)) * (wi (2 + c.deque)))))) + (wi (5 * c.tasks)))
theorem r6cells_eq (c : Cfg) : r6cells c = some ((cellsA c, ()), ()) := by unfold r6cells; simp only [r6deques_eq, Option.bind_some, if_true]; rfl
theorem r6sleepers_eq (c : Cfg) (a : Int) : r6sleepers c a = some ((ixA (wi (4 + c.heap)) a c.classes 1, ()), ()) := by unfold r6sleepers; simp only [r6index_eq, Option.bind_some]
theorem r6epoch_eq (c : Cfg) (a : Int) : r6epoch c a = some ((ixA (wi ((wi (4 + c.heap)) + c.classes)) a c.workers 1, ()), ()) := by unfold r6epoch; simp only [r6index_eq, Option.bind_some]
theorem taskA_in {c : Cfg} {t k : Int} (h : 0 ≤ taskA c t k) : 0 ≤ t ∧ t < c.tasks := by
  unfold taskA at h
  split at h
  · omega
  · rename_i h1
    unfold ixA at h1
    repeat' split at h1
    all_goals omega
/-! ### Numbers -/
def powL (n : Nat) (y : Int) : Int := match n with
  | 0 => y
  | n + 1 => powL n (wu (y * 2))
theorem power_loop {F : (Int × Int × Unit → Option (Int × Int × Unit)) → Int × Int × Unit → Option (Int × Int × Unit)} (hF : F = fun self x => if 0 < x.1 then self (wi (x.1 - 1), wu (x.2.1 * 2), ()) else some (x.1, x.2.1, ())) : ∀ (n k : Nat) (y : Int), n ≤ 64 → n < k → lpF F k ((n : Int), y, ()) = some (0, powL n y, ())
  | 0, k + 1, y, _, _ => by rw [lpF_succ, congrFun (congrFun hF _) _]; simp [powL]
  | n + 1, k + 1, y, hn, hk => by
    rw [lpF_succ, congrFun (congrFun hF _) _]
    have e : wi (((n + 1 : Nat) : Int) - 1) = (n : Int) := by rw [wi_id (rg_lit (by omega))]; omega
    simp only [e]
    rw [if_pos (by omega)]
    exact power_loop hF n k _ (by omega) (by omega)
theorem r1power_eq {a : Int} (h0 : 0 ≤ a) (h1 : a ≤ 64) : r1power a = some ((powL a.toNat 1, ()), ()) := by
  unfold r1power
  have := power_loop rfl a.toNat 18446744073709551616 1 (by omega) (by omega)
  rw [show ((a.toNat : Nat) : Int) = a by omega] at this
  rw [this]; rfl
theorem power_all : (List.range 64).all (fun k => decide (powL k 1 = 2 ^ k)) = true := by decide +kernel
theorem powL_eq {k : Nat} (h : k < 64) : powL k 1 = 2 ^ k := by
  have := List.all_eq_true.1 power_all k (by simp; omega)
  simpa using this
theorem powL_nz {k : Nat} (h : k < 64) : powL k 1 ≠ 0 := by
  rw [powL_eq h]
  have : (0 : Int) < 2 ^ k := Int.pow_pos (by omega)
  omega
def bitV (a b : Int) : Bool := if 0 ≤ b ∧ b < 64 then decide (Int.tmod (wu (Int.tdiv a (powL b.toNat 1))) 2 = 1) else false
theorem r1bit_eq (a b : Int) : r1bit a b = some ((bitV a b, ()), ()) := by
  unfold r1bit bitV
  by_cases h0 : 0 ≤ b
  · by_cases h1 : b < 64
    · simp only [h0, h1, if_true, and_self, r1power_eq h0 (by omega : b ≤ 64), Option.bind_some]
      rw [if_pos (powL_nz (by omega))]
    · simp [h0, h1]
  · simp [h0]
def maskV (a : Int) : Int := if 0 ≤ a ∧ a ≤ 63 then powL a.toNat 1 else 0
theorem r1mask_eq (a : Int) : r1mask a = some ((maskV a, ()), ()) := by
  unfold r1mask maskV
  by_cases h0 : a < 0
  · rw [if_pos h0, if_neg (by omega)]
  · rw [if_neg h0]
    by_cases h1 : 63 < a
    · rw [if_pos h1, if_neg (by omega)]
    · rw [if_neg h1, if_pos (by omega), r1power_eq (by omega) (by omega)]; rfl
def packV (a b c : Int) : Int × Bool := if a < 0 ∨ 16777215 < a ∨ b < 0 ∨ 16777215 < b ∨ c < 0 ∨ 65535 < c then (0, false) else (wu ((wu ((wu ((wu ((wu (a)) * powL 24 1)) + (wu (b)))) * powL 16 1)) + (wu (c))), true)
theorem r1pack_eq (a b c : Int) : r1pack a b c = some (((packV a b c).1, (packV a b c).2, ()), ()) := by
  unfold r1pack packV
  simp only [r1power_eq (show (0 : Int) ≤ 24 by omega) (by omega), r1power_eq (show (0 : Int) ≤ 16 by omega) (by omega), Option.bind_some]
  repeat' split
  all_goals first | rfl | omega
def unpackV (a : Int) : Int × Int × Int := (wi (wu (Int.tdiv a (powL 40 1))), wi ((Int.tmod (wu (Int.tdiv a (powL 16 1))) (powL 24 1))), wi ((Int.tmod a (powL 16 1))))
theorem r1unpack_eq (a : Int) : r1unpack a = some (((unpackV a).1, (unpackV a).2.1, (unpackV a).2.2, ()), ()) := by
  unfold r1unpack unpackV
  simp only [r1power_eq (show (0 : Int) ≤ 24 by omega) (by omega), r1power_eq (show (0 : Int) ≤ 16 by omega) (by omega), r1power_eq (show (0 : Int) ≤ 40 by omega) (by omega), Option.bind_some]
  rw [if_pos (powL_nz (by decide)), if_pos (powL_nz (by decide)), if_pos (powL_nz (by decide)), if_pos (powL_nz (by decide))]
  rfl
/-- The greatest bit from n - 1 down. -/
def highL (a : Int) : Nat → Int
  | 0 => -1
  | n + 1 => if bitV a n = true then n else highL a n
def highV (a : Int) : Int := highL a 64
theorem high_loop {a : Int} {F : (Int × Unit → Option ((Int × Unit) ⊕ ((Int × Unit) × Unit))) → Int × Unit → Option ((Int × Unit) ⊕ ((Int × Unit) × Unit))}
    (hF : F = fun self x => if 0 ≤ x.1 then (r1bit a x.1).bind fun r => if r.1.1 = true then Option.map Sum.inr (some ((x.1, ()), ())) else self (wi (x.1 - 1), ()) else some (Sum.inl (x.1, ()))) :
    ∀ (n k : Nat), n ≤ 64 → n < k → ((lpF F k ((n : Int) - 1, ())).bind fun z => match z with | .inr o => some o | .inl _ => some ((((-1 : Int), ()), ()) : (Int × Unit) × Unit)) = some ((highL a n, ()), ())
  | 0, k + 1, _, _ => by rw [lpF_succ, congrFun (congrFun hF _) _]; rfl
  | n + 1, k + 1, hn, hk => by
    rw [lpF_succ, congrFun (congrFun hF _) _]
    have e : (((n + 1 : Nat) : Int) - 1) = (n : Int) := by omega
    have e2 : wi ((n : Int) - 1) = (n : Int) - 1 := wi_id (rg_lit (by omega))
    simp only [e, r1bit_eq, Option.bind_some, e2]
    rw [if_pos (by omega)]
    by_cases hb : bitV a n = true
    · simp [hb, highL]
    · simp only [hb, Bool.false_eq_true, if_false, highL]
      exact high_loop hF n k (by omega) (by omega)
theorem r1high_eq (a : Int) : r1high a = some ((highV a, ()), ()) := by
  unfold r1high
  exact high_loop (a := a) rfl 64 18446744073709551616 (by omega) (by omega)
theorem highL_rg (a : Int) : ∀ n : Nat, n ≤ 64 → -1 ≤ highL a n ∧ highL a n < n
  | 0, _ => by simp [highL]
  | n + 1, h => by
    have := highL_rg a n (by omega)
    unfold highL; split <;> omega
theorem highV_rg (a : Int) : -1 ≤ highV a ∧ highV a ≤ 63 := by
  have := highL_rg a 64 (by omega)
  unfold highV; omega
/-- The least bit from 64 - n on. -/
def lowL (a : Int) : Nat → Int
  | 0 => -1
  | n + 1 => if bitV a ((63 - n : Nat) : Int) = true then ((63 - n : Nat) : Int) else lowL a n
def lowV (a : Int) : Int := lowL a 64
theorem low_loop {a : Int} {F : (Int × Int × Unit → Option ((Int × Int × Unit) ⊕ ((Int × Unit) × Unit))) → Int × Int × Unit → Option ((Int × Int × Unit) ⊕ ((Int × Unit) × Unit))}
    (hF : F = fun self x => if x.2.1 < 64 then (r1bit a x.2.1).bind fun r => if (!r.1.1) = true then self (x.1, wi (x.2.1 + 1), ()) else if x.1 = 0 then Option.map Sum.inr (some ((x.2.1, ()), ())) else self (wi (x.1 - 1), wi (x.2.1 + 1), ()) else some (Sum.inl (x.1, x.2.1, ()))) :
    ∀ (n k : Nat), n ≤ 64 → n < k → ((lpF F k (0, ((64 - n : Nat) : Int), ())).bind fun z => match z with | .inr o => some o | .inl _ => some ((((-1 : Int), ()), ()) : (Int × Unit) × Unit)) = some ((lowL a n, ()), ())
  | 0, k + 1, _, _ => by rw [lpF_succ, congrFun (congrFun hF _) _]; rfl
  | n + 1, k + 1, hn, hk => by
    rw [lpF_succ, congrFun (congrFun hF _) _]
    have e : (((64 - (n + 1) : Nat)) : Int) = ((63 - n : Nat) : Int) := by omega
    have e2 : wi (((63 - n : Nat) : Int) + 1) = ((64 - n : Nat) : Int) := by rw [wi_id (rg_lit (by omega))]; omega
    simp only [e, r1bit_eq, Option.bind_some, e2]
    rw [if_pos (by omega)]
    by_cases hb : bitV a ((63 - n : Nat) : Int) = true
    · simp [hb, lowL]
    · have hb' : bitV a ((63 - n : Nat) : Int) = false := by simpa using hb
      simp only [hb', Bool.not_false, if_true, lowL, Bool.false_eq_true, if_false]
      exact low_loop hF n k (by omega) (by omega)
theorem r1low_eq (a : Int) : r1low a = some ((lowV a, ()), ()) := by
  unfold r1low
  have : r1nth a 0 = some ((lowV a, ()), ()) := by
    unfold r1nth
    exact low_loop (a := a) rfl 64 18446744073709551616 (by omega) (by omega)
  rw [this]; rfl
theorem lowL_rg (a : Int) : ∀ n : Nat, n ≤ 64 → -1 ≤ lowL a n ∧ lowL a n < 64
  | 0, _ => by simp [lowL]
  | n + 1, h => by
    have := lowL_rg a n (by omega)
    unfold lowL; split <;> omega
theorem lowV_rg (a : Int) : -1 ≤ lowV a ∧ lowV a ≤ 63 := by
  have := lowL_rg a 64 (by omega)
  unfold lowV; omega
def drawV (a b : Int) : Int := if b < 1 then 0 else if Int.tmod a b < 0 then wi (Int.tmod a b + b) else Int.tmod a b
theorem r2draw_eq (a b : Int) : r2draw a b = some ((drawV a b, ()), ()) := by
  unfold r2draw drawV
  by_cases h : b < 1
  · rw [if_pos h, if_pos h]
  · rw [if_neg h, if_neg h]
    have hb : b ≠ 0 := by omega
    rw [if_pos hb]
    by_cases h2 : Int.tmod a b < 0
    · rw [if_pos h2, if_pos h2, if_pos hb]
    · rw [if_neg h2, if_neg h2, if_pos hb]
theorem drawV_rg {a b : Int} (h1 : 1 ≤ b) (h2 : b ≤ 1000000000000) : 0 ≤ drawV a b ∧ drawV a b < b := by
  unfold drawV
  have h3 := Int.tmod_lt_of_pos a (b := b) (by omega)
  have h4 := Int.lt_tmod_of_pos a (b := b) (by omega)
  rw [if_neg (by omega)]
  split
  · rw [wi_id (rg_lit (by omega))]; omega
  · omega
theorem drawV_big {a b : Int} (h2 : b ≤ 1000000000000) : Rg (drawV a b) := by
  by_cases h : 1 ≤ b
  · have := drawV_rg (a := a) h h2; exact rg_lit (by omega)
  · unfold drawV; rw [if_pos (by omega)]; exact rg_lit (by omega)
def classV (a b c : Int) : Int := if b < 1 ∨ 64 < b ∨ a < 0 ∨ b ≤ a ∨ c < 1 ∨ 8 < c then 0 else wi (Int.tdiv (wi (a * c)) b)
theorem r1class_eq (a b c : Int) : r1class a b c = some ((classV a b c, ()), ()) := by
  unfold r1class classV
  repeat' split
  all_goals first | rfl | omega
theorem tmod_lt {a b : Int} (h1 : 1 ≤ b) (h2 : 0 ≤ a) : 0 ≤ Int.tmod a b ∧ Int.tmod a b < b := ⟨Int.tmod_nonneg b h2, Int.tmod_lt_of_pos a (by omega)⟩
theorem tmod_rg {a b : Int} (h1 : 1 ≤ b) (h2 : b ≤ 1000000000000) : Rg (Int.tmod a b) := by
  have h3 := Int.tmod_lt_of_pos a (b := b) (by omega)
  have h4 := Int.lt_tmod_of_pos a (b := b) (by omega)
  exact rg_lit (by omega)
end
section
open Go
def EnvV.ac (e : EnvV) (k a v w : Int) : EnvV := { e with m := (acc e.m k a v w).2 }
def EnvV.rd (e : EnvV) (k a v w : Int) : Int := (acc e.m k a v w).1.1
def EnvV.hit (e : EnvV) (k a v w : Int) : Bool := (acc e.m k a v w).1.2
def EnvV.em (e : EnvV) (k w t o l : Int) : EnvV := { e with evs := e.evs ++ [⟨k, w, t, o, l⟩] }
def EnvV.rc (e : EnvV) (t : Int) : RecV := atK7 e.recs t
def EnvV.put (e : EnvV) (t : Int) (r : RecV) : EnvV := { e with recs := e.recs.set t.toNat r }
def IsTask (e : EnvV) (t : Int) : Prop := 0 ≤ t ∧ t < e.c.tasks ∧ t < (e.recs.length : Int)
instance (e : EnvV) (t : Int) : Decidable (IsTask e t) := inferInstanceAs (Decidable (_ ∧ _ ∧ _))
def EnvV.prog (e : EnvV) (t : Int) : List Ins := if (e.rc t).prog < 0 ∨ (e.c.progs.length : Int) ≤ (e.rc t).prog then [] else atL [] e.c.progs (e.rc t).prog
def EnvV.ins (e : EnvV) (t : Int) : Ins := atK3 (e.prog t) (e.rc t).pc
abbrev Lf := ResV × EnvV × FrV
def go (e : EnvV) (f : FrV) : Lf := (⟨false, 0, 0⟩, e, f)
def fin (c v : Int) (e : EnvV) (f : FrV) : Lf := (⟨true, c, v⟩, e, f)
def outL (o : Lf) : (ResV × Unit) × (EnvV × FrV × Unit) := ((o.1, ()), (o.2.1, o.2.2, ()))
def ringA (q : QV) (i : Int) : Int := if q.cap < 1 then -1 else wi (q.ring + wi (Int.tmod i (wu q.cap)))
def szV (b t : Int) : Int := wi (wu (b - t))
abbrev EnvV.ld (e : EnvV) (a : Int) : Int := e.rd 1 a 0 0
abbrev EnvV.lm (e : EnvV) (a : Int) : EnvV := e.ac 1 a 0 0
abbrev EnvV.sm (e : EnvV) (a v : Int) : EnvV := e.ac 2 a v 0
def epochA (c : Cfg) (a : Int) : Int := ixA (wi ((wi (4 + c.heap)) + c.classes)) a c.workers 1
def sleepA (c : Cfg) (a : Int) : Int := ixA (wi (4 + c.heap)) a c.classes 1
def slotA (c : Cfg) (a : Int) : Int := ixA 4 a c.heap 1
def pushM (e : EnvV) (f : FrV) : Lf :=
  if f.line = 1 then go (e.lm f.q.bottom) { f with line := 2, u := e.ld f.q.bottom }
  else if f.line = 2 then
    if f.q.cap ≤ szV f.u (e.ld f.q.top) then fin 3 0 (e.lm f.q.top) { f with v := e.ld f.q.top } else go (e.lm f.q.top) { f with line := 3, v := e.ld f.q.top }
  else if f.line = 3 then go (e.sm (ringA f.q f.u) (wu f.a)) { f with line := 4 }
  else fin 0 0 (e.sm f.q.bottom (wu (f.u + 1))) f
def popM (e : EnvV) (f : FrV) : Lf :=
  if f.line = 1 then go (e.lm f.q.bottom) { f with line := 2, u := e.ld f.q.bottom }
  else if f.line = 2 then
    if szV f.u (e.ld f.q.top) ≤ 0 then fin 2 0 (e.lm f.q.top) { f with v := e.ld f.q.top } else go (e.lm f.q.top) { f with line := 3, v := e.ld f.q.top }
  else if f.line = 3 then go (e.sm f.q.bottom (wu (f.u - 1))) { f with line := 4 }
  else if f.line = 4 then
    if szV (wu (f.u - 1)) (e.ld f.q.top) = 0 then go (e.lm f.q.top) { f with line := 6, v := e.ld f.q.top }
    else if szV (wu (f.u - 1)) (e.ld f.q.top) < 0 then go (e.lm f.q.top) { f with line := 9, v := e.ld f.q.top }
    else go (e.lm f.q.top) { f with line := 5, v := e.ld f.q.top }
  else if f.line = 5 ∨ f.line = 8 then fin 1 (wi (e.ld (ringA f.q (wu (f.u - 1))))) (e.lm (ringA f.q (wu (f.u - 1)))) f
  else if f.line = 6 then
    if e.hit 3 f.q.top f.v (wu (f.v + 1)) = true then go (e.ac 3 f.q.top f.v (wu (f.v + 1))) { f with line := 7 } else go (e.ac 3 f.q.top f.v (wu (f.v + 1))) { f with line := 9 }
  else if f.line = 7 then go (e.sm f.q.bottom f.u) { f with line := 8 }
  else fin 2 0 (e.sm f.q.bottom f.u) f
def stealM (e : EnvV) (f : FrV) : Lf :=
  if f.line = 1 then go (e.lm f.q.top) { f with line := 2, v := e.ld f.q.top }
  else if f.line = 2 then
    if szV (e.ld f.q.bottom) f.v ≤ 0 then fin 2 0 (e.lm f.q.bottom) { f with u := e.ld f.q.bottom } else go (e.lm f.q.bottom) { f with line := 3, u := e.ld f.q.bottom }
  else if f.line = 3 then go (e.lm (ringA f.q f.v)) { f with line := 4, w := e.ld (ringA f.q f.v) }
  else if e.hit 3 f.q.top f.v (wu (f.v + 1)) = true then fin 1 (wi f.w) (e.ac 3 f.q.top f.v (wu (f.v + 1))) f else fin 4 0 (e.ac 3 f.q.top f.v (wu (f.v + 1))) f
def clearM (e : EnvV) (f : FrV) : Lf :=
  if f.line = 1 then go (e.ac 5 f.a (cplU (maskV f.b)) 0) { f with line := 2 }
  else if f.line = 2 then go (e.lm f.q.bottom) { f with line := 3, u := e.ld f.q.bottom }
  else if f.line = 3 then
    if szV f.u (e.ld f.q.top) ≤ 0 then fin 2 0 (e.lm f.q.top) { f with v := e.ld f.q.top } else go (e.lm f.q.top) { f with line := 4, v := e.ld f.q.top }
  else fin 1 0 (e.ac 4 f.a (maskV f.b) 0) f
def insertM (e : EnvV) (f : FrV) : Lf :=
  if f.line = 1 then
    if e.c.heap ≤ wi (e.ld 2) then fin 3 0 (e.lm 2) { f with n := wi (e.ld 2) } else go (e.lm 2) { f with line := 2, n := wi (e.ld 2) }
  else if f.line = 2 then
    if (packV f.a (wi (e.rd 6 3 1 0)) f.b).2 = true then
      if f.n ≤ 0 then go (e.ac 6 3 1 0) { f with line := 5, i := f.n, w := (packV f.a (wi (e.rd 6 3 1 0)) f.b).1 } else go (e.ac 6 3 1 0) { f with line := 3, i := f.n, w := (packV f.a (wi (e.rd 6 3 1 0)) f.b).1 }
    else fin 4 0 (e.ac 6 3 1 0) f
  else if f.line = 3 then
    if e.ld (slotA e.c (wi (Int.tdiv (wi (f.i - 1)) 2))) ≤ f.w then go (e.lm (slotA e.c (wi (Int.tdiv (wi (f.i - 1)) 2)))) { f with line := 5, x := e.ld (slotA e.c (wi (Int.tdiv (wi (f.i - 1)) 2))) }
    else go (e.lm (slotA e.c (wi (Int.tdiv (wi (f.i - 1)) 2)))) { f with line := 4, x := e.ld (slotA e.c (wi (Int.tdiv (wi (f.i - 1)) 2))) }
  else if f.line = 4 then
    if wi (Int.tdiv (wi (f.i - 1)) 2) ≤ 0 then go (e.sm (slotA e.c f.i) f.x) { f with line := 5, i := wi (Int.tdiv (wi (f.i - 1)) 2) } else go (e.sm (slotA e.c f.i) f.x) { f with line := 3, i := wi (Int.tdiv (wi (f.i - 1)) 2) }
  else if f.line = 5 then go (e.sm (slotA e.c f.i) f.w) { f with line := 6 }
  else fin 0 0 (e.sm 2 (wu (wi (f.n + 1)))) f
def lesserM (f : FrV) : Int := if f.w < f.v then 7 else 8
def removeM (e : EnvV) (f : FrV) : Lf :=
  if f.line = 1 then
    if wi (e.ld 2) ≤ 0 then fin 2 0 (e.lm 2) { f with n := wi (e.ld 2) } else go (e.lm 2) { f with line := 2, n := wi (e.ld 2) }
  else if f.line = 2 then go (e.lm (slotA e.c 0)) { f with line := 3, u := e.ld (slotA e.c 0) }
  else if f.line = 3 then go (e.lm (slotA e.c (wi (f.n - 1)))) { f with line := 4, v := e.ld (slotA e.c (wi (f.n - 1))) }
  else if f.line = 4 then
    if f.n = 1 then fin 1 (unpackV f.u).2.2 ((e.sm 2 (wu (wi (f.n - 1)))).em 13 f.a (unpackV f.u).2.2 0 0) f
    else if 1 < wi (f.n - 1) then go ((e.sm 2 (wu (wi (f.n - 1)))).em 13 f.a (unpackV f.u).2.2 0 0) { f with line := 5, i := 0 }
    else go ((e.sm 2 (wu (wi (f.n - 1)))).em 13 f.a (unpackV f.u).2.2 0 0) { f with line := 8, i := 0 }
  else if f.line = 5 then
    if wi (f.n - 1) ≤ wi (wi (2 * f.i) + 2) then go (e.lm (slotA e.c (wi (wi (2 * f.i) + 1)))) { f with line := lesserM { f with w := e.ld (slotA e.c (wi (wi (2 * f.i) + 1))) }, j := wi (wi (2 * f.i) + 1), w := e.ld (slotA e.c (wi (wi (2 * f.i) + 1))) }
    else go (e.lm (slotA e.c (wi (wi (2 * f.i) + 1)))) { f with line := 6, j := wi (wi (2 * f.i) + 1), w := e.ld (slotA e.c (wi (wi (2 * f.i) + 1))) }
  else if f.line = 6 then
    if e.ld (slotA e.c (wi (wi (2 * f.i) + 2))) < f.w then go (e.lm (slotA e.c (wi (wi (2 * f.i) + 2)))) { f with line := lesserM { f with w := e.ld (slotA e.c (wi (wi (2 * f.i) + 2))) }, j := wi (wi (2 * f.i) + 2), w := e.ld (slotA e.c (wi (wi (2 * f.i) + 2))) }
    else go (e.lm (slotA e.c (wi (wi (2 * f.i) + 2)))) { f with line := lesserM f }
  else if f.line = 7 then
    if wi (wi (2 * f.j) + 1) < wi (f.n - 1) then go (e.sm (slotA e.c f.i) f.w) { f with line := 5, i := f.j } else go (e.sm (slotA e.c f.i) f.w) { f with line := 8, i := f.j }
  else fin 1 (unpackV f.u).2.2 (e.sm (slotA e.c f.i) f.v) f
def claimM (e : EnvV) (f : FrV) : Lf :=
  if e.hit 3 (taskA e.c f.b 0) 1 2 = true then
    fin 1 f.b ((((e.ac 3 (taskA e.c f.b 0) 1 2).put f.b { e.rc f.b with started := true })).em (if (e.rc f.b).started = true then 9 else 5) f.a f.b 0 0) f
  else fin 4 0 ((e.ac 3 (taskA e.c f.b 0) 1 2).em 15 f.a f.b 0 0) f
def allocM (e : EnvV) (f : FrV) : Lf :=
  if IsTask e (wi (e.rd 6 0 1 0)) then fin 1 (wi (e.rd 6 0 1 0)) (e.ac 6 0 1 0) f else fin 3 0 (e.ac 6 0 1 0) f
def publishM (e : EnvV) (f : FrV) : Lf :=
  if ¬ IsTask e f.a then fin 4 0 e f
  else if f.line = 1 then go (e.sm (taskA e.c f.a 1) (wu f.b)) { f with line := 2 }
  else if f.line = 2 then go (e.sm (taskA e.c f.a 4) (wu e.now)) { f with line := 3 }
  else fin 0 0 (e.sm (taskA e.c f.a 0) 1) f
def enterTM (e : EnvV) (f : FrV) : Lf :=
  if ¬ IsTask e f.b then fin 4 0 e f
  else if f.line = 1 then go (e.sm (taskA e.c f.b 4) (wu e.now)) { f with line := 2 }
  else if f.line = 2 then go (e.sm (taskA e.c f.b 0) 1) { f with line := 3 }
  else go (e.lm (taskA e.c f.b 1)) { f with line := wi (f.line + 1), t := wi (e.ld (taskA e.c f.b 1)) }
def raiseM (e : EnvV) (f : FrV) : Lf :=
  if ¬ IsTask e f.b ∨ f.d < 0 ∨ e.c.levels ≤ f.d then fin 4 0 e f
  else if f.line = 1 then
    if f.d ≤ wi (e.ld (taskA e.c f.b 1)) then fin 0 0 (e.lm (taskA e.c f.b 1)) { f with u := e.ld (taskA e.c f.b 1) } else go (e.lm (taskA e.c f.b 1)) { f with line := 2, u := e.ld (taskA e.c f.b 1) }
  else if e.hit 3 (taskA e.c f.b 1) f.u (wu f.d) = true then fin 1 0 ((e.ac 3 (taskA e.c f.b 1) f.u (wu f.d)).em 11 f.a f.b 0 f.d) f
  else go (e.ac 3 (taskA e.c f.b 1) f.u (wu f.d)) { f with line := 1 }
def walkM (e : EnvV) (f : FrV) : Lf :=
  if ¬ IsTask e f.b ∨ f.d < 0 ∨ e.c.levels ≤ f.d then fin 4 0 e f
  else if f.line = 2 then
    if e.ld (taskA e.c f.b 0) = 1 then go (e.lm (taskA e.c f.b 0)) { f with line := 3 } else go (e.lm (taskA e.c f.b 0)) { f with line := 4 }
  else if e.ld (taskA e.c f.b 3) = 0 then fin 0 0 (e.lm (taskA e.c f.b 3)) f
  else go (e.lm (taskA e.c f.b 3)) { f with line := 1, b := wi (wu (e.ld (taskA e.c f.b 3) - 1)) }
def sweepM (e : EnvV) (f : FrV) : Lf :=
  if ¬ IsTask e f.b ∨ e.c.age = 0 then fin 0 0 e f
  else if f.line = 1 then
    if e.ld (taskA e.c f.b 0) = 1 then go (e.lm (taskA e.c f.b 0)) { f with line := 2 } else fin 0 0 (e.lm (taskA e.c f.b 0)) f
  else if f.line = 2 then
    if wi (e.now - wi (e.ld (taskA e.c f.b 4))) < e.c.age then fin 0 0 (e.lm (taskA e.c f.b 4)) f else go (e.lm (taskA e.c f.b 4)) { f with line := 3 }
  else if f.line = 3 then
    if wi (e.c.levels - 1) ≤ wi (e.ld (taskA e.c f.b 1)) then fin 0 0 (e.lm (taskA e.c f.b 1)) { f with t := wi (wi (e.ld (taskA e.c f.b 1)) + 1), u := e.ld (taskA e.c f.b 1) }
    else go (e.lm (taskA e.c f.b 1)) { f with line := 4, t := wi (wi (e.ld (taskA e.c f.b 1)) + 1), u := e.ld (taskA e.c f.b 1) }
  else if f.line = 4 then
    if e.hit 3 (taskA e.c f.b 1) f.u (wu (f.u + 1)) = true then go ((e.ac 3 (taskA e.c f.b 1) f.u (wu (f.u + 1))).em 12 f.a f.b 0 f.t) { f with line := 5 } else fin 4 0 (e.ac 3 (taskA e.c f.b 1) f.u (wu (f.u + 1))) f
  else go (e.sm (taskA e.c f.b 4) (wu e.now)) { f with line := wi (f.line + 1) }
def sleepM (e : EnvV) (f : FrV) : Lf :=
  if f.line = 1 then go (e.lm (epochA e.c f.a)) { f with line := 2, u := e.ld (epochA e.c f.a) }
  else if f.line = 2 then go (e.ac 4 (sleepA e.c (drawV f.a e.c.classes)) (maskV f.a) 0) { f with line := 3 }
  else if f.line = 3 then
    if e.ld 2 = 0 then go (e.lm 2) { f with line := 4, n := 0 } else go (e.lm 2) { f with line := 7, n := 0 }
  else if f.line = 4 then
    if e.ld (bitmapA e.c f.n) = 0 then
      if wi (f.n + 1) < e.c.workers then go (e.lm (bitmapA e.c f.n)) { f with line := 4, n := wi (f.n + 1) }
      else go ((e.lm (bitmapA e.c f.n)).em 16 f.a 0 0 0) { f with line := 5, n := wi (f.n + 1), t := e.now }
    else go (e.lm (bitmapA e.c f.n)) { f with line := 7, n := wi (f.n + 1) }
  else if f.line = 5 then
    if e.ld (epochA e.c f.a) = f.u then
      if e.c.patience ≤ wi (e.now - f.t) then go ((e.lm (epochA e.c f.a)).em 17 f.a 0 2 0) { f with line := 6 } else go (e.lm (epochA e.c f.a)) { f with line := 5 }
    else go ((e.lm (epochA e.c f.a)).em 17 f.a 0 1 0) { f with line := 6 }
  else if f.line = 6 then fin 1 0 (e.ac 5 (sleepA e.c (drawV f.a e.c.classes)) (cplU (maskV f.a)) 0) f
  else fin 5 0 (e.ac 5 (sleepA e.c (drawV f.a e.c.classes)) (cplU (maskV f.a)) 0) f
def wakeK (e : EnvV) (f : FrV) : Int := sleepA e.c (drawV (wi (classV f.b e.c.levels e.c.classes + f.j)) e.c.classes)
def wakeM (e : EnvV) (f : FrV) : Lf :=
  if f.line = 1 then
    if e.ld (wakeK e f) = 0 then
      if e.c.classes ≤ wi (f.j + 1) then fin 2 0 (e.lm (wakeK e f)) { f with j := wi (f.j + 1) } else go (e.lm (wakeK e f)) { f with j := wi (f.j + 1) }
    else go (e.lm (wakeK e f)) { f with line := 2, n := lowV (e.ld (wakeK e f)) }
  else if f.line = 2 then
    if bitV (e.rd 5 (wakeK e f) (cplU (maskV f.n)) 0) f.n = true then go (e.ac 5 (wakeK e f) (cplU (maskV f.n)) 0) { f with line := 3 } else fin 4 0 (e.ac 5 (wakeK e f) (cplU (maskV f.n)) 0) f
  else fin 1 f.n ((e.ac 6 (epochA e.c f.n) 1 0).em 18 f.a 0 f.n 0) f
def drainM (e : EnvV) (f : FrV) : Lf :=
  if f.line = 1 then
    if wi (e.ld 2) ≤ 0 then fin 2 0 (e.lm 2) f else go (e.lm 2) { f with line := 2 }
  else go (e.lm (taskA e.c f.n 1)) { f with line := 5, t := wi (e.ld (taskA e.c f.n 1)) }
def topL (l : List Int) : Int := l.getLast?.getD 0
def leaveM (e : EnvV) (f : FrV) : Lf := if f.l.length = 1 then fin 0 0 e { f with line := 1, l := f.l.dropLast } else go e { f with line := 1, l := f.l.dropLast }
def finishM (e : EnvV) (f : FrV) (t : Int) : Lf :=
  if f.line = 17 then go (e.sm (taskA e.c t 0) 4) { f with line := 18 }
  else if f.line = 18 then
    if e.hit 3 (taskA e.c t 2) 0 4294967296 = true then leaveM ((e.ac 3 (taskA e.c t 2) 0 4294967296).em 10 f.a t 0 0) f
    else go ((e.ac 3 (taskA e.c t 2) 0 4294967296).em 10 f.a t 0 0) { f with line := 19 }
  else if IsTask e (wi (wu (e.ld (taskA e.c t 2) - 1))) then go (e.lm (taskA e.c t 2)) { f with line := 20, n := wi (wu (e.ld (taskA e.c t 2) - 1)) }
  else leaveM (e.lm (taskA e.c t 2)) { f with n := wi (wu (e.ld (taskA e.c t 2) - 1)) }
/-- A step of a Compute. -/
def compR (r : RecV) (i : Ins) : RecV := 
  if wi ((if r.left = 0 then i.a else r.left) - 1) = 0 then { r with pc := wi (r.pc + 1), left := wi ((if r.left = 0 then i.a else r.left) - 1) } else { r with left := wi ((if r.left = 0 then i.a else r.left) - 1) }
def runM (e : EnvV) (f : FrV) : Lf :=
  if f.line = 23 then fin 4 0 e f
  else if f.line = 2 then go ((e.sm (taskA e.c (topL f.l) 3) 0).put (topL f.l) { e.rc (topL f.l) with waiting := -1 }) { f with line := 1 }
  else if f.line = 3 then go (e.put (topL f.l) (compR (e.rc (topL f.l)) (e.ins (topL f.l)))) { f with line := 1 }
  else if f.line = 4 then go (e.put (topL f.l) { e.rc (topL f.l) with pc := wi ((e.rc (topL f.l)).pc + 1) }) { f with line := 1 }
  else if f.line = 10 then go ((e.sm (taskA e.c (topL f.l) 3) (wu (wi (f.j + 1)))).put (topL f.l) { e.rc (topL f.l) with pc := wi ((e.rc (topL f.l)).pc + 1), waiting := f.j }) { f with line := 11 }
  else if f.line = 11 then go (e.sm (taskA e.c (topL f.l) 0) 3) { f with line := 12 }
  else if f.line = 12 then
    if e.hit 3 (taskA e.c f.j 2) 0 (wu (wi (topL f.l + 1))) = true then go ((e.ac 3 (taskA e.c f.j 2) 0 (wu (wi (topL f.l + 1)))).em 6 f.a (topL f.l) f.j 0) { f with line := 13 }
    else go (e.ac 3 (taskA e.c f.j 2) 0 (wu (wi (topL f.l + 1)))) { f with line := 15 }
  else if f.line = 13 then go (e.lm (taskA e.c (topL f.l) 1)) { f with line := 14, t := wi (e.ld (taskA e.c (topL f.l) 1)) }
  else if f.line = 15 then go (e.sm (taskA e.c (topL f.l) 0) 2) { f with line := 16 }
  else if f.line = 16 then go (((e.sm (taskA e.c (topL f.l) 3) 0).put (topL f.l) { e.rc (topL f.l) with waiting := -1 }).em 8 f.a (topL f.l) f.j 0) { f with line := 1 }
  else finishM e f (topL f.l)
def EnvV.sub (e : EnvV) (i : Int) : Sub := atK4 e.c.subs i
def clientM (e : EnvV) (f : FrV) : Lf :=
  if (e.c.subs.length : Int) ≤ f.i then fin 0 0 e f
  else if f.line = 2 then
    if e.c.heap ≤ wi (e.ld 2) then go ((e.lm 2).em 2 e.c.workers 0 f.i 1) { f with line := 8, b := 0 } else go (e.lm 2) { f with line := 3, b := 0 }
  else if f.line = 4 then go (e.sm (taskA e.c f.n 1) (wu (e.sub f.i).level)) { f with line := 5 }
  else if f.line = 5 then go (e.sm (taskA e.c f.n 4) (wu e.now)) { f with line := 6 }
  else go (e.sm (taskA e.c f.n 0) 1) { f with line := wi (f.line + 1) }
end
section
open Go
/-- There is room for another event. -/
def Fit (e : EnvV) : Prop := e.evs.length < 999999999999
theorem emit_eq {e : EnvV} (h : Fit e) (k w t o l : Int) : r8env_emit e k w t o l = some ((()), (e.em k w t o l, ())) := by
  unfold r8env_emit EnvV.em
  unfold Fit at h
  rw [if_pos (by simp; omega)]
theorem emit_ac {e : EnvV} {m : MemV} (h : Fit e) (k w t o l : Int) : r8env_emit { e with m := m } k w t o l = some ((()), (({ e with m := m } : EnvV).em k w t o l, ())) := emit_eq (e := { e with m := m }) h k w t o l
theorem emit_pu {e : EnvV} {m : MemV} {rs : List RecV} (h : Fit e) (k w t o l : Int) : r8env_emit { e with m := m, recs := rs } k w t o l = some ((()), (({ e with m := m, recs := rs } : EnvV).em k w t o l, ())) := emit_eq (e := { e with m := m, recs := rs }) h k w t o l
theorem wu_ne {x : Int} (h : ¬ x < 1) (h2 : x ≤ 9223372036854775807) : wu x ≠ 0 := by
  have : wu x = x := wu64 (by omega) (by omega)
  rw [this]; omega
theorem w2 : wi 2 = 2 := rfl
theorem w3 : wi 3 = 3 := rfl
theorem w4 : wi 4 = 4 := rfl
theorem w5 : wi 5 = 5 := rfl
theorem w6 : wi 6 = 6 := rfl
theorem w7 : wi 7 = 7 := rfl
theorem w8 : wi 8 = 8 := rfl
theorem w9 : wi 9 = 9 := rfl
section
variable {e : EnvV} {f : FrV}
theorem steal_eq (hq : f.q.cap ≤ 9223372036854775807) : r8steal e f = some (outL (stealM e f)) := by
  have hq2 := @wu_ne f.q.cap; unfold r8steal stealM
  simp only [r2acc_eq, r6slot_eq, r6state_eq, r6level_eq, r6join_eq, r6waits_eq, r6since_eq, r6bitmap_eq, r6sleepers_eq, r6epoch_eq, r6queue_eq, r1bit_eq, r1mask_eq, r1pack_eq, r1unpack_eq, r1high_eq, r1low_eq, r1class_eq, r2draw_eq, Option.bind_some, if_true, r8lesser, outL, go, fin, EnvV.ac, EnvV.rd, EnvV.hit, EnvV.em, szV, slotA, epochA, sleepA, lesserM, ringA, EnvV.put, EnvV.rc, wakeK, EnvV.sub]
  repeat' split
  all_goals first | rfl | omega | (simp_all (config := { maxSteps := 2000000 }) [w2, w3, w4, w5, w6, w7, w8, w9]; done) | (simp_all (config := { maxSteps := 2000000 }) [w2, w3, w4, w5, w6, w7, w8, w9]; omega)
theorem clearbit_eq : r8clearbit e f = some (outL (clearM e f)) := by
  unfold r8clearbit clearM
  simp only [r2acc_eq, r6slot_eq, r6state_eq, r6level_eq, r6join_eq, r6waits_eq, r6since_eq, r6bitmap_eq, r6sleepers_eq, r6epoch_eq, r6queue_eq, r1bit_eq, r1mask_eq, r1pack_eq, r1unpack_eq, r1high_eq, r1low_eq, r1class_eq, r2draw_eq, Option.bind_some, if_true, r8lesser, outL, go, fin, EnvV.ac, EnvV.rd, EnvV.hit, EnvV.em, szV, slotA, epochA, sleepA, lesserM, ringA, EnvV.put, EnvV.rc, wakeK, EnvV.sub]
  repeat' split
  all_goals first | rfl | omega | (simp_all (config := { maxSteps := 2000000 }) [w2, w3, w4, w5, w6, w7, w8, w9]; done) | (simp_all (config := { maxSteps := 2000000 }) [w2, w3, w4, w5, w6, w7, w8, w9]; omega)
theorem push_eq (hq : f.q.cap ≤ 9223372036854775807) : r8push e f = some (outL (pushM e f)) := by
  have hq2 := @wu_ne f.q.cap; unfold r8push pushM
  simp only [r2acc_eq, r6slot_eq, r6state_eq, r6level_eq, r6join_eq, r6waits_eq, r6since_eq, r6bitmap_eq, r6sleepers_eq, r6epoch_eq, r6queue_eq, r1bit_eq, r1mask_eq, r1pack_eq, r1unpack_eq, r1high_eq, r1low_eq, r1class_eq, r2draw_eq, Option.bind_some, if_true, r8lesser, outL, go, fin, EnvV.ac, EnvV.rd, EnvV.hit, EnvV.em, szV, slotA, epochA, sleepA, lesserM, ringA, EnvV.put, EnvV.rc, wakeK, EnvV.sub]
  repeat' split
  all_goals first | rfl | omega | (simp_all (config := { maxSteps := 2000000 }) [w2, w3, w4, w5, w6, w7, w8, w9]; done) | (simp_all (config := { maxSteps := 2000000 }) [w2, w3, w4, w5, w6, w7, w8, w9]; omega)
theorem insert_eq : r8insert e f = some (outL (insertM e f)) := by
  unfold r8insert insertM
  simp only [r2acc_eq, r6slot_eq, r6state_eq, r6level_eq, r6join_eq, r6waits_eq, r6since_eq, r6bitmap_eq, r6sleepers_eq, r6epoch_eq, r6queue_eq, r1bit_eq, r1mask_eq, r1pack_eq, r1unpack_eq, r1high_eq, r1low_eq, r1class_eq, r2draw_eq, Option.bind_some, if_true, r8lesser, outL, go, fin, EnvV.ac, EnvV.rd, EnvV.hit, EnvV.em, szV, slotA, epochA, sleepA, lesserM, ringA, EnvV.put, EnvV.rc, wakeK, EnvV.sub]
  repeat' split
  all_goals first | rfl | omega | (simp_all (config := { maxSteps := 2000000 }) [w2, w3, w4, w5, w6, w7, w8, w9]; done) | (simp_all (config := { maxSteps := 2000000 }) [w2, w3, w4, w5, w6, w7, w8, w9]; omega)
theorem remove_eq (hE : Fit e) : r8remove e f = some (outL (removeM e f)) := by
  unfold r8remove removeM
  simp only [r2acc_eq, r6slot_eq, r6state_eq, r6level_eq, r6join_eq, r6waits_eq, r6since_eq, r6bitmap_eq, r6sleepers_eq, r6epoch_eq, r6queue_eq, r1bit_eq, r1mask_eq, r1pack_eq, r1unpack_eq, r1high_eq, r1low_eq, r1class_eq, r2draw_eq, Option.bind_some, if_true, r8lesser, outL, go, fin, EnvV.ac, EnvV.rd, EnvV.hit, EnvV.em, szV, slotA, epochA, sleepA, lesserM, ringA, EnvV.put, EnvV.rc, wakeK, EnvV.sub, emit_eq, emit_ac hE, emit_pu hE]
  by_cases h1 : f.line = 1
  · simp only [if_pos h1]
    try simp only [h1]
    repeat' split
    all_goals first | rfl | omega | (simp_all (config := { maxSteps := 400000 }) [w2, w3, w4, w5, w6, w7, w8, w9]; done) | (simp_all (config := { maxSteps := 400000 }) [w2, w3, w4, w5, w6, w7, w8, w9]; omega)
  by_cases h2 : f.line = 2
  · simp only [if_neg h1, if_pos h2]
    try simp only [h2]
    repeat' split
    all_goals first | rfl | omega | (simp_all (config := { maxSteps := 400000 }) [w2, w3, w4, w5, w6, w7, w8, w9]; done) | (simp_all (config := { maxSteps := 400000 }) [w2, w3, w4, w5, w6, w7, w8, w9]; omega)
  by_cases h3 : f.line = 3
  · simp only [if_neg h1, if_neg h2, if_pos h3]
    try simp only [h3]
    repeat' split
    all_goals first | rfl | omega | (simp_all (config := { maxSteps := 400000 }) [w2, w3, w4, w5, w6, w7, w8, w9]; done) | (simp_all (config := { maxSteps := 400000 }) [w2, w3, w4, w5, w6, w7, w8, w9]; omega)
  by_cases h4 : f.line = 4
  · simp only [if_neg h1, if_neg h2, if_neg h3, if_pos h4]
    try simp only [h4]
    repeat' split
    all_goals first | rfl | omega | (simp_all (config := { maxSteps := 400000 }) [w2, w3, w4, w5, w6, w7, w8, w9]; done) | (simp_all (config := { maxSteps := 400000 }) [w2, w3, w4, w5, w6, w7, w8, w9]; omega)
  by_cases h5 : f.line = 5
  · simp only [if_neg h1, if_neg h2, if_neg h3, if_neg h4, if_pos h5]
    try simp only [h5]
    repeat' split
    all_goals first | rfl | omega | (simp_all (config := { maxSteps := 400000 }) [w2, w3, w4, w5, w6, w7, w8, w9]; done) | (simp_all (config := { maxSteps := 400000 }) [w2, w3, w4, w5, w6, w7, w8, w9]; omega)
  by_cases h6 : f.line = 6
  · simp only [if_neg h1, if_neg h2, if_neg h3, if_neg h4, if_neg h5, if_pos h6]
    try simp only [h6]
    repeat' split
    all_goals first | rfl | omega | (simp_all (config := { maxSteps := 400000 }) [w2, w3, w4, w5, w6, w7, w8, w9]; done) | (simp_all (config := { maxSteps := 400000 }) [w2, w3, w4, w5, w6, w7, w8, w9]; omega)
  by_cases h7 : f.line = 7
  · simp only [if_neg h1, if_neg h2, if_neg h3, if_neg h4, if_neg h5, if_neg h6, if_pos h7]
    try simp only [h7]
    repeat' split
    all_goals first | rfl | omega | (simp_all (config := { maxSteps := 400000 }) [w2, w3, w4, w5, w6, w7, w8, w9]; done) | (simp_all (config := { maxSteps := 400000 }) [w2, w3, w4, w5, w6, w7, w8, w9]; omega)
  · simp only [if_neg h1, if_neg h2, if_neg h3, if_neg h4, if_neg h5, if_neg h6, if_neg h7]
    repeat' split
    all_goals first | rfl | omega | (simp_all (config := { maxSteps := 400000 }) [w2, w3, w4, w5, w6, w7, w8, w9]; done) | (simp_all (config := { maxSteps := 400000 }) [w2, w3, w4, w5, w6, w7, w8, w9]; omega)
theorem sleep_eq (hE : Fit e) : r8sleep e f = some (outL (sleepM e f)) := by
  unfold r8sleep sleepM
  simp only [r2acc_eq, r6slot_eq, r6state_eq, r6level_eq, r6join_eq, r6waits_eq, r6since_eq, r6bitmap_eq, r6sleepers_eq, r6epoch_eq, r6queue_eq, r1bit_eq, r1mask_eq, r1pack_eq, r1unpack_eq, r1high_eq, r1low_eq, r1class_eq, r2draw_eq, Option.bind_some, if_true, r8lesser, outL, go, fin, EnvV.ac, EnvV.rd, EnvV.hit, EnvV.em, szV, slotA, epochA, sleepA, lesserM, ringA, EnvV.put, EnvV.rc, wakeK, EnvV.sub, emit_eq, emit_ac hE, emit_pu hE]
  repeat' split
  all_goals first | rfl | omega | (simp_all (config := { maxSteps := 2000000 }) [w2, w3, w4, w5, w6, w7, w8, w9]; done) | (simp_all (config := { maxSteps := 2000000 }) [w2, w3, w4, w5, w6, w7, w8, w9]; omega)
theorem wake_eq (hE : Fit e) : r8wake e f = some (outL (wakeM e f)) := by
  unfold r8wake wakeM
  simp only [r2acc_eq, r6slot_eq, r6state_eq, r6level_eq, r6join_eq, r6waits_eq, r6since_eq, r6bitmap_eq, r6sleepers_eq, r6epoch_eq, r6queue_eq, r1bit_eq, r1mask_eq, r1pack_eq, r1unpack_eq, r1high_eq, r1low_eq, r1class_eq, r2draw_eq, Option.bind_some, if_true, r8lesser, outL, go, fin, EnvV.ac, EnvV.rd, EnvV.hit, EnvV.em, szV, slotA, epochA, sleepA, lesserM, ringA, EnvV.put, EnvV.rc, wakeK, EnvV.sub, emit_eq, emit_ac hE, emit_pu hE]
  repeat' split
  all_goals first | rfl | omega | (simp_all (config := { maxSteps := 2000000 }) [w2, w3, w4, w5, w6, w7, w8, w9]; done) | (simp_all (config := { maxSteps := 2000000 }) [w2, w3, w4, w5, w6, w7, w8, w9]; omega)
theorem drain_eq : r8drain e f = some (outL (drainM e f)) := by
  unfold r8drain drainM
  simp only [r2acc_eq, r6slot_eq, r6state_eq, r6level_eq, r6join_eq, r6waits_eq, r6since_eq, r6bitmap_eq, r6sleepers_eq, r6epoch_eq, r6queue_eq, r1bit_eq, r1mask_eq, r1pack_eq, r1unpack_eq, r1high_eq, r1low_eq, r1class_eq, r2draw_eq, Option.bind_some, if_true, r8lesser, outL, go, fin, EnvV.ac, EnvV.rd, EnvV.hit, EnvV.em, szV, slotA, epochA, sleepA, lesserM, ringA, EnvV.put, EnvV.rc, wakeK, EnvV.sub]
  repeat' split
  all_goals first | rfl | omega | (simp_all (config := { maxSteps := 2000000 }) [w2, w3, w4, w5, w6, w7, w8, w9]; done) | (simp_all (config := { maxSteps := 2000000 }) [w2, w3, w4, w5, w6, w7, w8, w9]; omega)
theorem pop_eq (hq : f.q.cap ≤ 9223372036854775807) : r8pop e f = some (outL (popM e f)) := by
  have hq2 := @wu_ne f.q.cap; unfold r8pop popM
  simp only [r2acc_eq, r6slot_eq, r6state_eq, r6level_eq, r6join_eq, r6waits_eq, r6since_eq, r6bitmap_eq, r6sleepers_eq, r6epoch_eq, r6queue_eq, r1bit_eq, r1mask_eq, r1pack_eq, r1unpack_eq, r1high_eq, r1low_eq, r1class_eq, r2draw_eq, Option.bind_some, if_true, r8lesser, outL, go, fin, EnvV.ac, EnvV.rd, EnvV.hit, EnvV.em, szV, slotA, epochA, sleepA, lesserM, ringA, EnvV.put, EnvV.rc, wakeK, EnvV.sub]
  by_cases h1 : f.line = 1
  · simp only [if_pos h1]
    try simp only [h1]
    repeat' split
    all_goals first | rfl | omega | (simp_all (config := { maxSteps := 400000 }) [w2, w3, w4, w5, w6, w7, w8, w9]; done) | (simp_all (config := { maxSteps := 400000 }) [w2, w3, w4, w5, w6, w7, w8, w9]; omega)
  by_cases h2 : f.line = 2
  · simp only [if_neg h1, if_pos h2]
    try simp only [h2]
    repeat' split
    all_goals first | rfl | omega | (simp_all (config := { maxSteps := 400000 }) [w2, w3, w4, w5, w6, w7, w8, w9]; done) | (simp_all (config := { maxSteps := 400000 }) [w2, w3, w4, w5, w6, w7, w8, w9]; omega)
  by_cases h3 : f.line = 3
  · simp only [if_neg h1, if_neg h2, if_pos h3]
    try simp only [h3]
    repeat' split
    all_goals first | rfl | omega | (simp_all (config := { maxSteps := 400000 }) [w2, w3, w4, w5, w6, w7, w8, w9]; done) | (simp_all (config := { maxSteps := 400000 }) [w2, w3, w4, w5, w6, w7, w8, w9]; omega)
  by_cases h4 : f.line = 4
  · simp only [if_neg h1, if_neg h2, if_neg h3, if_pos h4]
    try simp only [h4]
    repeat' split
    all_goals first | rfl | omega | (simp_all (config := { maxSteps := 400000 }) [w2, w3, w4, w5, w6, w7, w8, w9]; done) | (simp_all (config := { maxSteps := 400000 }) [w2, w3, w4, w5, w6, w7, w8, w9]; omega)
  by_cases h5 : f.line = 5
  · simp only [if_neg h1, if_neg h2, if_neg h3, if_neg h4, if_pos h5]
    try simp only [h5]
    repeat' split
    all_goals first | rfl | omega | (simp_all (config := { maxSteps := 400000 }) [w2, w3, w4, w5, w6, w7, w8, w9]; done) | (simp_all (config := { maxSteps := 400000 }) [w2, w3, w4, w5, w6, w7, w8, w9]; omega)
  by_cases h8 : f.line = 8
  · simp only [if_neg h1, if_neg h2, if_neg h3, if_neg h4, if_neg h5, if_pos h8]
    try simp only [h8]
    repeat' split
    all_goals first | rfl | omega | (simp_all (config := { maxSteps := 400000 }) [w2, w3, w4, w5, w6, w7, w8, w9]; done) | (simp_all (config := { maxSteps := 400000 }) [w2, w3, w4, w5, w6, w7, w8, w9]; omega)
  by_cases h6 : f.line = 6
  · simp only [if_neg h1, if_neg h2, if_neg h3, if_neg h4, if_neg h5, if_neg h8, if_pos h6]
    try simp only [h6]
    repeat' split
    all_goals first | rfl | omega | (simp_all (config := { maxSteps := 400000 }) [w2, w3, w4, w5, w6, w7, w8, w9]; done) | (simp_all (config := { maxSteps := 400000 }) [w2, w3, w4, w5, w6, w7, w8, w9]; omega)
  by_cases h7 : f.line = 7
  · simp only [if_neg h1, if_neg h2, if_neg h3, if_neg h4, if_neg h5, if_neg h8, if_neg h6, if_pos h7]
    try simp only [h7]
    repeat' split
    all_goals first | rfl | omega | (simp_all (config := { maxSteps := 400000 }) [w2, w3, w4, w5, w6, w7, w8, w9]; done) | (simp_all (config := { maxSteps := 400000 }) [w2, w3, w4, w5, w6, w7, w8, w9]; omega)
  · simp only [if_neg h1, if_neg h2, if_neg h3, if_neg h4, if_neg h5, if_neg h8, if_neg h6, if_neg h7]
    repeat' split
    all_goals first | rfl | omega | (simp_all (config := { maxSteps := 400000 }) [w2, w3, w4, w5, w6, w7, w8, w9]; done) | (simp_all (config := { maxSteps := 400000 }) [w2, w3, w4, w5, w6, w7, w8, w9]; omega)
theorem claim_eq (hE : Fit e) (hr : (e.recs.length : Int) = e.c.tasks) : r8claim e f = some (outL (claimM e f)) := by
  unfold r8claim claimM
  have hin := @taskA_in e.c f.b 0
  have hok := @acc_ok e.m 3 (taskA e.c f.b 0) 1 2
  simp only [r2acc_eq, r6slot_eq, r6state_eq, r6level_eq, r6join_eq, r6waits_eq, r6since_eq, r6bitmap_eq, r6sleepers_eq, r6epoch_eq, r6queue_eq, r1bit_eq, r1mask_eq, r1pack_eq, r1unpack_eq, r1high_eq, r1low_eq, r1class_eq, r2draw_eq, Option.bind_some, if_true, r8lesser, outL, go, fin, EnvV.ac, EnvV.rd, EnvV.hit, EnvV.em, szV, slotA, epochA, sleepA, lesserM, ringA, EnvV.put, EnvV.rc, wakeK, EnvV.sub, emit_eq, emit_ac hE, emit_pu hE]
  by_cases h : (acc e.m 3 (taskA e.c f.b 0) 1 2).1.2 = true
  · have h1 := hin (hok h).1
    have h2 : 0 ≤ f.b ∧ f.b < (e.recs.length : Int) := by omega
    simp only [h, h2, if_true, Bool.not_true, Bool.false_eq_true, if_false, and_self]
    repeat' split
    all_goals first | rfl | omega | (simp_all (config := { maxSteps := 400000 }) [w2, w3, w4, w5, w6, w7, w8, w9]; done) | (simp_all (config := { maxSteps := 400000 }) [w2, w3, w4, w5, w6, w7, w8, w9]; omega)
  · have h' : (acc e.m 3 (taskA e.c f.b 0) 1 2).1.2 = false := by simpa using h
    simp only [h', Bool.not_false, if_true, Bool.false_eq_true, if_false]
theorem table_alloc (hk : f.kind = 12) : r8table e f = some (outL (allocM e f)) := by
  unfold r8table allocM
  simp only [hk, r2acc_eq, r6slot_eq, r6state_eq, r6level_eq, r6join_eq, r6waits_eq, r6since_eq, r6bitmap_eq, r6sleepers_eq, r6epoch_eq, r6queue_eq, r1bit_eq, r1mask_eq, r1pack_eq, r1unpack_eq, r1high_eq, r1low_eq, r1class_eq, r2draw_eq, Option.bind_some, if_true, r8lesser, outL, go, fin, EnvV.ac, EnvV.rd, EnvV.hit, EnvV.em, szV, slotA, epochA, sleepA, lesserM, ringA, EnvV.put, EnvV.rc, wakeK, EnvV.sub]
  by_cases hT : IsTask e (wi (acc e.m 6 0 1 0).1.1)
  · have h1 := hT.1
    have h2 := hT.2.1
    have h3 := hT.2.2
    simp only [hT, h1, h2, h3, not_true, if_true, if_false, false_or]
    repeat' split
    all_goals first | rfl | omega | (simp_all (config := { maxSteps := 400000 }) [w2, w3, w4, w5, w6, w7, w8, w9]; done) | (simp_all (config := { maxSteps := 400000 }) [w2, w3, w4, w5, w6, w7, w8, w9]; omega)
  · simp only [hT, not_false_iff, true_or, if_true]
    unfold IsTask at hT
    repeat' split
    all_goals first | rfl | omega | (simp_all (config := { maxSteps := 400000 }) [w2, w3, w4, w5, w6, w7, w8, w9]; done) | (simp_all (config := { maxSteps := 400000 }) [w2, w3, w4, w5, w6, w7, w8, w9]; omega)
theorem table_claim (hk : f.kind = 14) (hE : Fit e) (hr : (e.recs.length : Int) = e.c.tasks) : r8table e f = some (outL (claimM e f)) := by
  unfold r8table
  simp only [hk, claim_eq hE hr, Option.bind_some]
  rfl
theorem table_publish (hk : f.kind = 13) : r8table e f = some (outL (publishM e f)) := by
  unfold r8table publishM
  simp only [hk, show ¬ ((13 : Int) = 12) by decide, show ¬ ((13 : Int) = 14) by decide, if_false, r2acc_eq, r6slot_eq, r6state_eq, r6level_eq, r6join_eq, r6waits_eq, r6since_eq, r6bitmap_eq, r6sleepers_eq, r6epoch_eq, r6queue_eq, r1bit_eq, r1mask_eq, r1pack_eq, r1unpack_eq, r1high_eq, r1low_eq, r1class_eq, r2draw_eq, Option.bind_some, if_true, r8lesser, outL, go, fin, EnvV.ac, EnvV.rd, EnvV.hit, EnvV.em, szV, slotA, epochA, sleepA, lesserM, ringA, EnvV.put, EnvV.rc, wakeK, EnvV.sub]
  by_cases hT : IsTask e f.a
  · have h1 := hT.1
    have h2 := hT.2.1
    have h3 := hT.2.2
    simp only [hT, h1, h2, h3, not_true, if_true, if_false, false_or]
    repeat' split
    all_goals first | rfl | omega | (simp_all (config := { maxSteps := 400000 }) [w2, w3, w4, w5, w6, w7, w8, w9]; done) | (simp_all (config := { maxSteps := 400000 }) [w2, w3, w4, w5, w6, w7, w8, w9]; omega)
  · simp only [hT, not_false_iff, true_or, if_true]
    unfold IsTask at hT
    repeat' split
    all_goals first | rfl | omega | (simp_all (config := { maxSteps := 400000 }) [w2, w3, w4, w5, w6, w7, w8, w9]; done) | (simp_all (config := { maxSteps := 400000 }) [w2, w3, w4, w5, w6, w7, w8, w9]; omega)
theorem table_enter (hk : f.kind = 15) : r8table e f = some (outL (enterTM e f)) := by
  unfold r8table enterTM
  simp only [hk, show ¬ ((15 : Int) = 12) by decide, show ¬ ((15 : Int) = 14) by decide, show ¬ ((15 : Int) = 13) by decide, if_false, r2acc_eq, r6slot_eq, r6state_eq, r6level_eq, r6join_eq, r6waits_eq, r6since_eq, r6bitmap_eq, r6sleepers_eq, r6epoch_eq, r6queue_eq, r1bit_eq, r1mask_eq, r1pack_eq, r1unpack_eq, r1high_eq, r1low_eq, r1class_eq, r2draw_eq, Option.bind_some, if_true, r8lesser, outL, go, fin, EnvV.ac, EnvV.rd, EnvV.hit, EnvV.em, szV, slotA, epochA, sleepA, lesserM, ringA, EnvV.put, EnvV.rc, wakeK, EnvV.sub]
  by_cases hT : IsTask e f.b
  · have h1 := hT.1
    have h2 := hT.2.1
    have h3 := hT.2.2
    simp only [hT, h1, h2, h3, not_true, if_true, if_false, false_or]
    repeat' split
    all_goals first | rfl | omega | (simp_all (config := { maxSteps := 400000 }) [w2, w3, w4, w5, w6, w7, w8, w9]; done) | (simp_all (config := { maxSteps := 400000 }) [w2, w3, w4, w5, w6, w7, w8, w9]; omega)
  · simp only [hT, not_false_iff, true_or, if_true]
    unfold IsTask at hT
    repeat' split
    all_goals first | rfl | omega | (simp_all (config := { maxSteps := 400000 }) [w2, w3, w4, w5, w6, w7, w8, w9]; done) | (simp_all (config := { maxSteps := 400000 }) [w2, w3, w4, w5, w6, w7, w8, w9]; omega)
theorem boost_raise (hk : f.kind = 16) (hE : Fit e) : r8boost e f = some (outL (raiseM e f)) := by
  unfold r8boost raiseM
  simp only [hk, r2acc_eq, r6slot_eq, r6state_eq, r6level_eq, r6join_eq, r6waits_eq, r6since_eq, r6bitmap_eq, r6sleepers_eq, r6epoch_eq, r6queue_eq, r1bit_eq, r1mask_eq, r1pack_eq, r1unpack_eq, r1high_eq, r1low_eq, r1class_eq, r2draw_eq, Option.bind_some, if_true, r8lesser, outL, go, fin, EnvV.ac, EnvV.rd, EnvV.hit, EnvV.em, szV, slotA, epochA, sleepA, lesserM, ringA, EnvV.put, EnvV.rc, wakeK, EnvV.sub, emit_eq, emit_ac hE, emit_pu hE]
  by_cases hT : IsTask e f.b
  · have h1 := hT.1
    have h2 := hT.2.1
    have h3 := hT.2.2
    simp only [hT, h1, h2, h3, not_true, if_true, if_false, false_or]
    repeat' split
    all_goals first | rfl | omega | (simp_all (config := { maxSteps := 400000 }) [w2, w3, w4, w5, w6, w7, w8, w9]; done) | (simp_all (config := { maxSteps := 400000 }) [w2, w3, w4, w5, w6, w7, w8, w9]; omega)
  · simp only [hT, not_false_iff, true_or, if_true]
    unfold IsTask at hT
    repeat' split
    all_goals first | rfl | omega | (simp_all (config := { maxSteps := 400000 }) [w2, w3, w4, w5, w6, w7, w8, w9]; done) | (simp_all (config := { maxSteps := 400000 }) [w2, w3, w4, w5, w6, w7, w8, w9]; omega)
theorem boost_walk (hk : f.kind = 17) : r8boost e f = some (outL (walkM e f)) := by
  unfold r8boost walkM
  simp only [hk, show ¬ ((17 : Int) = 16) by decide, if_false, r2acc_eq, r6slot_eq, r6state_eq, r6level_eq, r6join_eq, r6waits_eq, r6since_eq, r6bitmap_eq, r6sleepers_eq, r6epoch_eq, r6queue_eq, r1bit_eq, r1mask_eq, r1pack_eq, r1unpack_eq, r1high_eq, r1low_eq, r1class_eq, r2draw_eq, Option.bind_some, if_true, r8lesser, outL, go, fin, EnvV.ac, EnvV.rd, EnvV.hit, EnvV.em, szV, slotA, epochA, sleepA, lesserM, ringA, EnvV.put, EnvV.rc, wakeK, EnvV.sub]
  by_cases hT : IsTask e f.b
  · have h1 := hT.1
    have h2 := hT.2.1
    have h3 := hT.2.2
    simp only [hT, h1, h2, h3, not_true, if_true, if_false, false_or]
    repeat' split
    all_goals first | rfl | omega | (simp_all (config := { maxSteps := 400000 }) [w2, w3, w4, w5, w6, w7, w8, w9]; done) | (simp_all (config := { maxSteps := 400000 }) [w2, w3, w4, w5, w6, w7, w8, w9]; omega)
  · simp only [hT, not_false_iff, true_or, if_true]
    unfold IsTask at hT
    repeat' split
    all_goals first | rfl | omega | (simp_all (config := { maxSteps := 400000 }) [w2, w3, w4, w5, w6, w7, w8, w9]; done) | (simp_all (config := { maxSteps := 400000 }) [w2, w3, w4, w5, w6, w7, w8, w9]; omega)
theorem sweep_eq (hE : Fit e) : r8sweep e f = some (outL (sweepM e f)) := by
  unfold r8sweep sweepM
  simp only [r2acc_eq, r6slot_eq, r6state_eq, r6level_eq, r6join_eq, r6waits_eq, r6since_eq, r6bitmap_eq, r6sleepers_eq, r6epoch_eq, r6queue_eq, r1bit_eq, r1mask_eq, r1pack_eq, r1unpack_eq, r1high_eq, r1low_eq, r1class_eq, r2draw_eq, Option.bind_some, if_true, r8lesser, outL, go, fin, EnvV.ac, EnvV.rd, EnvV.hit, EnvV.em, szV, slotA, epochA, sleepA, lesserM, ringA, EnvV.put, EnvV.rc, wakeK, EnvV.sub, emit_eq, emit_ac hE, emit_pu hE]
  by_cases hT : IsTask e f.b
  · have h1 := hT.1
    have h2 := hT.2.1
    have h3 := hT.2.2
    simp only [hT, h1, h2, h3, not_true, if_true, if_false, false_or]
    repeat' split
    all_goals first | rfl | omega | (simp_all (config := { maxSteps := 400000 }) [w2, w3, w4, w5, w6, w7, w8, w9]; done) | (simp_all (config := { maxSteps := 400000 }) [w2, w3, w4, w5, w6, w7, w8, w9]; omega)
  · simp only [hT, not_false_iff, true_or, if_true]
    unfold IsTask at hT
    repeat' split
    all_goals first | rfl | omega | (simp_all (config := { maxSteps := 400000 }) [w2, w3, w4, w5, w6, w7, w8, w9]; done) | (simp_all (config := { maxSteps := 400000 }) [w2, w3, w4, w5, w6, w7, w8, w9]; omega)
end
end
section
open Go
structure CfgOk (c : Cfg) : Prop where
  w1 : 1 ≤ c.workers
  w2 : c.workers ≤ 64
  l1 : 1 ≤ c.levels
  l2 : c.levels ≤ 64
  c1 : 1 ≤ c.classes
  c2 : c.classes ≤ 64
  t1 : 1 ≤ c.tasks
  t2 : c.tasks ≤ 65535
  q1 : 0 ≤ c.deque
  q2 : c.deque ≤ 65535
  sl : c.subs.length ≤ 1000
  sub : ∀ s ∈ c.subs, Rg s.level ∧ Rg s.deadline ∧ Rg s.prog
  ins : ∀ p ∈ c.progs, ∀ x ∈ p, Rg x.a ∧ Rg x.b ∧ (x.op ≠ 0 → x.op ≠ 1 → 0 ≤ x.a)
/-- How many numbers below n are not a. -/
def cntO (a : Int) : Nat → Int
  | 0 => 0
  | n + 1 => if (n : Int) ≠ a then cntO a n + 1 else cntO a n
/-- Whether one of the next k places holds another worker. -/
def leftL (w a t : Int) : Nat → Int → Bool
  | 0, _ => false
  | k + 1, i => decide (Int.tmod (wi (t + i)) w ≠ a) || leftL w a t k (i + 1)
def leftB (w a t i : Int) : Bool := leftL w a t (w - i).toNat i
def probeB (e : EnvV) (f : FrV) : FrV := if f.line = 1 then { f with line := 2, j := -1, n := -1, t := drawV e.draw e.c.workers } else f
def probeI (e : EnvV) (f : FrV) : Int := if Int.tmod (wi (f.t + f.i)) e.c.workers = f.a then wi (f.i + 1) else f.i
def probeV (e : EnvV) (f : FrV) : Int := Int.tmod (wi (f.t + probeI e f)) e.c.workers
def probeH (e : EnvV) (f : FrV) : Int := highV (e.ld (bitmapA e.c (probeV e f)))
def probeF (e : EnvV) (f : FrV) : FrV := if f.n < probeH e f then { f with i := wi (probeI e f + 1), j := probeV e f, n := probeH e f } else { f with i := wi (probeI e f + 1) }
def probeX (e : EnvV) (f : FrV) : Lf :=
  if cntO f.a e.c.workers.toNat = 0 then fin 2 0 e f
  else if leftB e.c.workers f.a f.t (wi (probeI e f + 1)) = true then go (e.lm (bitmapA e.c (probeV e f))) (probeF e f)
  else if (probeF e f).j < 0 then fin 2 0 (e.lm (bitmapA e.c (probeV e f))) (probeF e f)
  else fin 1 (wi (wi ((probeF e f).j * 64) + (probeF e f).n)) (e.lm (bitmapA e.c (probeV e f))) (probeF e f)
def probeM (e : EnvV) (f : FrV) : Lf := probeX e (probeB e f)
def leafM (e : EnvV) (f : FrV) : Lf :=
  if f.kind = 0 then pushM e f
  else if f.kind = 1 then popM e f
  else if f.kind = 2 then stealM e f
  else if f.kind = 3 then fin 0 0 (e.ac 4 f.a (maskV f.b) 0) f
  else if f.kind = 4 then clearM e f
  else if f.kind = 6 then
    if e.ld (bitmapA e.c f.a) = 0 then fin 2 0 (e.lm (bitmapA e.c f.a)) { f with u := e.ld (bitmapA e.c f.a) } else go (e.lm (bitmapA e.c f.a)) { f with line := 2, u := e.ld (bitmapA e.c f.a), i := highV (e.ld (bitmapA e.c f.a)) }
  else if f.kind = 7 then
    if e.hit 3 1 0 (wu (wi (f.a + 1))) = true then fin 1 0 (e.ac 3 1 0 (wu (wi (f.a + 1)))) f else go (e.ac 3 1 0 (wu (wi (f.a + 1)))) f
  else if f.kind = 8 then
    if e.hit 3 1 0 (wu (wi (f.a + 1))) = true then fin 1 0 (e.ac 3 1 0 (wu (wi (f.a + 1)))) f else fin 5 0 (e.ac 3 1 0 (wu (wi (f.a + 1)))) f
  else if f.kind = 9 then fin 0 0 (e.sm 1 0) f
  else if f.kind = 10 then insertM e f
  else if f.kind = 11 then removeM e f
  else if f.kind = 12 then allocM e f
  else if f.kind = 13 then publishM e f
  else if f.kind = 14 then claimM e f
  else if f.kind = 15 then enterTM e f
  else if f.kind = 16 then raiseM e f
  else if f.kind = 17 then walkM e f
  else if f.kind = 18 then sweepM e f
  else if f.kind = 19 then sleepM e f
  else if f.kind = 20 then wakeM e f
  else if f.kind = 21 then probeM e f
  else if f.kind = 22 then drainM e f
  else if f.kind = 24 then runM e f
  else if f.kind = 26 then clientM e f
  else fin 4 0 e f
/-- The line that the record of the top determines. -/
def chooseM (e : EnvV) (f : FrV) : FrV :=
  if f.line ≠ 1 then f
  else if ¬ IsTask e (topL f.l) then { f with line := 23 }
  else if (e.rc (topL f.l)).waiting ≠ -1 then { f with line := 2 }
  else if (e.rc (topL f.l)).pc < 0 ∨ ((e.prog (topL f.l)).length : Int) ≤ (e.rc (topL f.l)).pc then { f with line := 17 }
  else if (e.ins (topL f.l)).op = 0 then { f with line := 3 }
  else if (e.ins (topL f.l)).op = 1 then { f with line := 5 }
  else if (e.ins (topL f.l)).a < ((e.rc (topL f.l)).kids.length : Int) ∧ atK1 (e.rc (topL f.l)).kids (e.ins (topL f.l)).a ≠ -1 then { f with line := 10, j := atK1 (e.rc (topL f.l)).kids (e.ins (topL f.l)).a }
  else { f with line := 4 }
/-- A new frame. -/
def frK (k : Int) : FrV := ⟨k, 0, ⟨0, 0, 0, 0⟩, 0, 0, 0, 0, 0, 0, 0, 0, 0, 0, 0, []⟩
/-- What a frame that chose its line enters. -/
def runE (f : FrV) : Option FrV :=
  if f.line = 5 then some (frK 12)
  else if f.line = 6 then some { frK 13 with a := f.n, b := f.d }
  else if f.line = 7 then some { frK 5 with a := f.a, b := f.d, d := f.n }
  else if f.line = 8 then some { frK 20 with a := f.a, b := f.d }
  else if f.line = 9 ∨ f.line = 22 then some { frK 14 with a := f.a, b := f.n }
  else if f.line = 14 then some { frK 17 with a := f.a, b := f.j, d := f.t }
  else if f.line = 20 then some { frK 15 with a := f.a, b := f.n }
  else if f.line = 21 then some { frK 20 with a := f.a, b := f.t }
  else none
def drainE (f : FrV) : Option FrV :=
  if f.line = 2 then some { frK 8 with a := f.a }
  else if f.line = 3 then some { frK 11 with a := f.a }
  else if f.line = 5 then some { frK 5 with a := f.a, b := f.t, d := f.n }
  else if f.line = 6 then some (frK 9)
  else if f.line = 7 then some { frK 20 with a := f.a, b := f.j }
  else none
def workerB (e : EnvV) (f : FrV) : FrV := if f.line = 1 ∧ e.c.age = 0 then { f with line := 2 } else f
def workerE (e : EnvV) (f : FrV) : FrV :=
  if f.line = 1 then { frK 18 with a := f.a, b := f.j }
  else if f.line = 2 then { frK 23 with a := f.a }
  else if f.line = 3 then { frK 22 with a := f.a, d := -1 }
  else if f.line = 4 then { frK 21 with a := f.a }
  else if f.line = 5 then { frK 2 with q := queueA e.c f.i f.d }
  else if f.line = 6 then { frK 14 with a := f.a, b := f.n }
  else if f.line = 7 then { frK 24 with a := f.a, b := f.n, l := [f.n] }
  else if f.line = 8 then { frK 19 with a := f.a }
  else { frK 4 with a := bitmapA e.c f.i, b := f.d, q := queueA e.c f.i f.d }
def clientE (e : EnvV) (f : FrV) : Option FrV :=
  if (e.c.subs.length : Int) ≤ f.i then none
  else if f.line = 1 then some { frK 7 with a := e.c.workers }
  else if f.line = 3 then some (frK 12)
  else if f.line = 6 then some { frK 10 with a := (e.sub f.i).deadline, b := f.n }
  else if f.line = 8 then some (frK 9)
  else if f.line = 9 then some { frK 20 with a := e.c.workers, b := (e.sub f.i).level }
  else none
/-- The frame of the machine that the present line runs, if it runs one; and the frame itself. -/
def enterM (e : EnvV) (f : FrV) : Option FrV × FrV :=
  if f.kind = 5 then
    if f.line = 1 then (some { frK 0 with q := queueA e.c f.a f.b, a := f.d }, f) else (some { frK 3 with a := bitmapA e.c f.a, b := f.b }, f)
  else if f.kind = 6 then
    if f.line = 2 then (some { frK 1 with q := queueA e.c f.a f.i }, f)
    else if f.line = 3 then (some { frK 4 with a := bitmapA e.c f.a, b := f.i, q := queueA e.c f.a f.i }, f)
    else (none, f)
  else if f.kind = 15 then
    if f.line = 4 then (some { frK 5 with a := f.a, b := f.t, d := f.b }, f) else (none, f)
  else if f.kind = 17 then
    if f.line = 1 then
      if IsTask e f.b ∧ 0 ≤ f.d ∧ f.d < e.c.levels then (some { frK 16 with a := f.a, b := f.b, d := f.d }, f) else (none, f)
    else if f.line = 3 then (some { frK 5 with a := f.a, b := f.d, d := f.b }, f)
    else (none, f)
  else if f.kind = 18 then
    if f.line = 6 then (some { frK 5 with a := f.a, b := f.t, d := f.b }, f) else (none, f)
  else if f.kind = 22 then (drainE f, f)
  else if f.kind = 23 then
    if f.line = 1 then (some { frK 6 with a := f.a }, f) else (some { frK 14 with a := f.a, b := f.n }, f)
  else if f.kind = 24 then (runE (chooseM e f), chooseM e f)
  else if f.kind = 25 then (some (workerE e (workerB e f)), workerB e f)
  else if f.kind = 26 then (clientE e f, f)
  else (none, f)
def walkB (e : EnvV) (f : FrV) (code : Int) : Lf :=
  if f.line = 1 then (if code = 1 then go e { f with line := 2 } else go e { f with line := 4 })
  else if code = 3 then go (e.em 19 f.a f.b 0 f.d) { f with line := 4 } else go e { f with line := 4 }
def drainB (e : EnvV) (f : FrV) (code value : Int) : Lf :=
  if f.line = 2 then (if code = 5 then fin 5 0 e f else go e { f with line := 3 })
  else if f.line = 3 then (if code = 2 then go e { f with line := 6, n := value } else go e { f with line := 4, n := value })
  else if f.line = 5 then
    if code = 3 then go e { f with line := 6, d := f.n }
    else if wi (f.i + 1) < e.c.batch then go e { f with line := 3, i := wi (f.i + 1), j := f.t } else go e { f with line := 6, i := wi (f.i + 1), j := f.t }
  else if f.line = 6 then
    if 0 < f.i then go e { f with line := 7 } else if 0 ≤ f.d then fin 1 f.d e f else fin 2 0 e f
  else if 0 ≤ f.d then fin 1 f.d e f else fin 0 f.i e f
def takeBk (e : EnvV) (f : FrV) (code value : Int) : Lf :=
  if f.line = 1 then (if code = 2 then fin 2 0 e f else go e { f with line := 2, n := value })
  else if code = 1 then fin 1 value e f else go e { f with line := 1 }
def workerBk (e : EnvV) (f : FrV) (code value : Int) : Lf :=
  if f.line = 1 then go e { f with line := 2, j := Int.tmod (wi (f.j + 1)) (if 1 < e.c.tasks then e.c.tasks else 1) }
  else if f.line = 2 then (if code = 1 then go e { f with line := 7, n := value } else go e { f with line := 3, n := value })
  else if f.line = 3 then
    if code = 1 then go e { f with line := 6, n := value }
    else if code = 0 then go e { f with line := 2, n := value }
    else if e.c.workers = 1 then go e { f with line := 8, n := value }
    else go e { f with line := 4, n := value }
  else if f.line = 4 then (if code = 1 then go e { f with line := 5, d := Int.tmod value 64, i := wi (Int.tdiv value 64) } else go e { f with line := 8, d := Int.tmod value 64, i := wi (Int.tdiv value 64) })
  else if f.line = 5 then
    if code = 1 then go (e.em 14 f.a value f.i f.d) { f with line := 6, n := value }
    else if code = 2 then go e { f with line := 9, n := value }
    else go e { f with line := 1, n := value }
  else if f.line = 6 then (if code = 1 then go e { f with line := 7 } else go e { f with line := 1 })
  else go e { f with line := 1 }
def followM (e : EnvV) (f : FrV) : Lf :=
  if (e.c.subs.length : Int) ≤ wi (f.i + 1) then fin 0 0 e { f with line := 1, b := 0, i := wi (f.i + 1) } else go e { f with line := 1, b := 0, i := wi (f.i + 1) }
def newRec (prog parent : Int) : RecV := ⟨prog, parent, 0, 0, -1, [], false⟩
def clientB (e : EnvV) (f : FrV) (code value : Int) : Lf :=
  if f.line = 1 then go e { f with line := 2 }
  else if f.line = 3 then
    if code = 3 then go (e.em 2 e.c.workers 0 f.i 2) { f with line := 8 } else go (e.put value (newRec (e.sub f.i).prog (-1))) { f with line := 4, n := value }
  else if f.line = 6 then
    if code = 0 then go (e.em 1 e.c.workers f.n f.i (e.sub f.i).level) { f with line := 7, b := 1 } else go e { f with line := 8 }
  else if f.line = 8 then (if f.b = 1 then go e { f with line := 9 } else followM e f)
  else followM e f
/-- What a Spawn leaves in the record of the top. -/
def kidR (r : RecV) (k : Int) : RecV := { r with pc := wi (r.pc + 1), kids := r.kids ++ [k] }
def runB (e : EnvV) (f : FrV) (code value : Int) : Lf :=
  if f.line = 5 then
    if code = 3 then go ((e.put (topL f.l) (kidR (e.rc (topL f.l)) (-1))).em 4 f.a (topL f.l) 0 0) { f with line := 1 }
    else go ((e.put (topL f.l) (kidR (e.rc (topL f.l)) value)).put value (newRec (e.ins (topL f.l)).a (topL f.l))) { f with line := 6, n := value, d := (e.ins (topL f.l)).b }
  else if f.line = 6 then go (e.em 3 f.a f.n (topL f.l) f.d) { f with line := 7 }
  else if f.line = 7 then (if code = 3 then go e { f with line := 9 } else go e { f with line := 8 })
  else if f.line = 8 then go e { f with line := 1 }
  else if f.line = 9 then (if code = 1 then go e { f with line := 1, l := f.l ++ [f.n] } else go e { f with line := 1 })
  else if f.line = 14 then leaveM (e.em 7 f.a (topL f.l) 0 f.t) f
  else if f.line = 20 then (if code = 3 then go e { f with line := 22, t := value } else go e { f with line := 21, t := value })
  else if f.line = 21 then leaveM e f
  else if f.line = 22 then (if code = 1 then go e { f with line := 1, l := f.l.dropLast ++ [f.n] } else leaveM e f)
  else go e f
/-- What a frame does with the result of the machine that its present line ran. -/
def backM (e : EnvV) (f : FrV) (code value : Int) : Lf :=
  if f.kind = 5 then (if f.line = 2 ∨ code = 3 then fin code 0 e f else go e { f with line := 2 })
  else if f.kind = 6 then
    if f.line = 3 then go e { f with line := 1 } else if code = 1 then fin 1 value e f else go e { f with line := 3 }
  else if f.kind = 15 then fin code f.t e f
  else if f.kind = 17 then walkB e f code
  else if f.kind = 18 then (if code = 3 then fin 1 0 (e.em 19 f.a f.b 0 f.t) f else fin 1 0 e f)
  else if f.kind = 22 then drainB e f code value
  else if f.kind = 23 then takeBk e f code value
  else if f.kind = 24 then runB e f code value
  else if f.kind = 25 then workerBk e f code value
  else if f.kind = 26 then clientB e f code value
  else go e f
/-! ### A step: the stack with its top first -/
def enterS (e : EnvV) : Nat → FrV → List FrV → FrV × List FrV
  | 0, top, ps => (top, ps)
  | k + 1, top, ps => match enterM e top with
    | (none, f) => (f, ps)
    | (some ch, f) => enterS e k { ch with line := 1 } (f :: ps)
def backS : ResV → EnvV → FrV → List FrV → (Option ResV × EnvV × List FrV)
  | r, e, top, [] => if r.done = true then (some r, e, []) else (none, e, [top])
  | r, e, top, p :: ps => if r.done = true then backS (backM e p r.code r.value).1 (backM e p r.code r.value).2.1 (backM e p r.code r.value).2.2 ps else (none, e, top :: p :: ps)
def stepS (e : EnvV) (top : FrV) (ps : List FrV) : Option ResV × EnvV × List FrV :=
  backS (leafM e (enterS e 8 top ps).1).1 (leafM e (enterS e 8 top ps).1).2.1 (leafM e (enterS e 8 top ps).1).2.2 (enterS e 8 top ps).2
def stepM (e : EnvV) (m : MaV) : Bool × MaV × EnvV :=
  if m.over = true then (true, m, e)
  else match m.f.reverse with
    | [] => (false, m, e)
    | top :: ps => match stepS e top ps with
      | (some r, e', _) => (true, ⟨[], true, r.code, r.value⟩, e')
      | (none, e', s) => (false, { m with f := s.reverse }, e')
end
end Go.Proofs.YtpbkelpokpglaaaGreat
