/- The cells of an engine's memory by kinds: what each may hold; what the places of the layout are. What a step leaves alone: levels and Next; the machines that run none inside. The keys of the injector: what their low bits are. Raises; the machines that run others inside, up to Drain. Run, a worker, the client: what a step does with levels, Next and the events; who publishes a task. A worker and the client: what a step does with levels, Next and the events. The history of the levels: what was declared, what was raised, and the Level cells. -/
import Derived.Test.YteapeojalliebaaGreatHqap
set_option linter.all false
namespace Go.Proofs.YteapeojalliebaaGreat
section
open Go Go.RowKit
set_option maxRecDepth 100000
variable [Tb]
theorem aiz {x : Int} (h : 0 ≤ x ∧ x ≤ 1000000000000) : wu x = x := by
  show IntKind.u64.wrap x = x
  simp [IntKind.wrap, IntKind.signed, IntKind.bits, IntKind.min, IntKind.max]
  omega
def ckC (c : Cfg) (a : Int) : Int :=
  if a < 0 then 9 else if a = 0 then 0 else if a < 4 then 1 else if a < 4 + c.heap then 2 else if a < (aaI c).queues then 3
  else if a < (aaI c).table then (if (a - (aaI c).queues) % (2 + c.deque) < 2 then 4 else 5)
  else if (a - (aaI c).table) % 5 = 1 then 6 else 7
structure CellOk (c : Cfg) (a x : Int) : Prop where
  p : 0 ≤ x
  s : ckC c a = 2 → aot x 65535 < c.tasks
  r : ckC c a = 5 → x < c.tasks
  l : ckC c a = 6 → x < c.levels
def Fr (c : Cfg) (a : Int) : Prop := ckC c a ≠ 0 ∧ ckC c a ≠ 2 ∧ ckC c a ≠ 5 ∧ ckC c a ≠ 6
theorem Fr.ok {c : Cfg} {a x : Int} (h : Fr c a) (hx : 0 ≤ x) : CellOk c a x := ⟨hx, fun k => absurd k h.2.1, fun k => absurd k h.2.2.1, fun k => absurd k h.2.2.2⟩
theorem aqa {c : Cfg} {a k : Int} (h : ckC c a = k) (hk : k = 1 ∨ k = 3 ∨ k = 4 ∨ k = 7 ∨ k = 9) : Fr c a := by
  unfold Fr; rw [h]; omega
section
variable {c : Cfg}
theorem DecOk.rg (h : DecOk c) : (0 ≤ c.workers * c.levels ∧ c.workers * c.levels ≤ 16) ∧ (0 ≤ c.workers * c.levels * (2 + c.deque) ∧ c.workers * c.levels * (2 + c.deque) ≤ 96) := by
  have h1 := h.w
  have h2 := h.l
  have h3 := h.q
  have e1 := aAw (a := c.workers) (b := c.levels) (A := 4) (B := 4) (by omega) (by omega) (by omega) (by omega)
  have e2 := aAw (a := c.workers * c.levels) (b := 2 + c.deque) (A := 16) (B := 6) e1.1 (by omega) (by omega) (by omega)
  omega
theorem ahg : ckC c (-1) = 9 := by unfold ckC; rw [if_pos (by omega)]
theorem af3 (h : DecOk c) : 4 + c.heap ≤ (aaI c).queues ∧ (aaI c).queues ≤ (aaI c).table ∧ (aaI c).table ≤ 200 ∧ (aaI c).table = (aaI c).queues + c.workers * c.levels * (2 + c.deque) := by
  have h1 := h.w
  have h2 := h.l
  have h3 := h.q
  have h4 := h.h
  have h5 := h.k
  have e := h.rg
  refine ⟨?_, ?_, ?_, ?_⟩ <;> show _ <;> unfold aaI <;> simp only <;> omega
theorem aBa (h : DecOk c) {a : Int} (ha : 1 ≤ a ∧ a ≤ 3) : ckC c a = 1 := by
  unfold ckC; rw [if_neg (by omega), if_neg (by omega), if_pos (by omega)]
theorem ayM (h : DecOk c) {t f : Int} (ht : 0 ≤ t) (hf : 0 ≤ f ∧ f < 5) : ckC c ((aaI c).table + f + t * 5) = if f = 1 then 6 else 7 := by
  have e := af3 h
  have h4 := h.h
  unfold ckC
  rw [if_neg (by omega), if_neg (by omega), if_neg (by omega), if_neg (by omega), if_neg (by omega), if_neg (by omega)]
  by_cases hf1 : f = 1
  · rw [if_pos (by omega), if_pos hf1]
  · rw [if_neg (by omega), if_neg hf1]
theorem aeb (h : DecOk c) {t f : Int} (hf : 0 ≤ f ∧ f < 5) : aev (aaI c) t f = if 0 ≤ t ∧ t < c.tasks then (aaI c).table + f + t * 5 else -1 := by
  have e := af3 h
  have h4 := h.t
  have h5 := h.h
  have h6 := h.rg
  unfold aev atP
  have e1 : (aaI c).tasks = c.tasks := rfl
  rw [e1]
  by_cases h1 : t < 0
  · rw [if_pos h1, if_neg (by omega)]
  rw [if_neg h1]
  by_cases h2 : c.tasks ≤ t
  · rw [if_pos h2, if_neg (by omega)]
  rw [if_neg h2, if_pos (by omega), aaH (x := (aaI c).table + f) (aao (by omega)), aaH (x := t * 5) (aao (by omega)), aaH (aao (by omega))]
theorem aop (h : DecOk c) {t f : Int} (hf : 0 ≤ f ∧ f < 5) : ckC c (aev (aaI c) t f) = if 0 ≤ t ∧ t < c.tasks then (if f = 1 then 6 else 7) else 9 := by
  rw [aeb h hf]
  split
  · rename_i h1; rw [ayM h h1.1 hf]
  · rw [ahg]
theorem arI (h : DecOk c) {t f : Int} (hf : 0 ≤ f ∧ f < 5) (hf1 : f ≠ 1) : Fr c (aev (aaI c) t f) := by
  refine aqa rfl ?_
  rw [aop h hf, if_neg hf1]
  split <;> omega
theorem agn (h : DecOk c) {t : Int} : Fr c (ac7 (aaI c) t) := arI h (by omega) (by omega)
theorem arJ (h : DecOk c) {t : Int} : Fr c (agU (aaI c) t) := arI h (by omega) (by omega)
theorem arH (h : DecOk c) {t : Int} : Fr c (af2 (aaI c) t) := arI h (by omega) (by omega)
theorem aok (h : DecOk c) {t : Int} : Fr c (ali (aaI c) t) := arI h (by omega) (by omega)
theorem apA (h : DecOk c) {a : Int} (ha : 1 ≤ a ∧ a ≤ 3) : Fr c a := aqa (aBa h ha) (by omega)
theorem aGd {i n a w : Int} (hn : n ≤ 1000) (ha : 0 ≤ a ∧ a ≤ 1000) (hw : w = 1) : atP i n a w = if 0 ≤ i ∧ i < n then a + i else -1 := by
  subst hw
  unfold atP
  by_cases h1 : i < 0
  · rw [if_pos h1, if_neg (by omega)]
  rw [if_neg h1]
  by_cases h2 : n ≤ i
  · rw [if_pos h2, if_neg (by omega)]
  rw [if_neg h2, if_pos (by omega), Int.mul_one, aaH (x := i) (aao (by omega)), aaH (aao (by omega))]
theorem apJ (h : DecOk c) {a : Int} (ha : 4 + c.heap ≤ a ∧ a < (aaI c).queues) : ckC c a = 3 := by
  have h4 := h.h
  unfold ckC
  rw [if_neg (by omega), if_neg (by omega), if_neg (by omega), if_neg (by omega), if_pos (by omega)]
theorem alA : (aaI c).queues = 4 + c.heap + c.classes + c.workers + c.workers := rfl
theorem aBg (h : DecOk c) {w : Int} : ckC c (ag3 (aaI c) w) = 3 ∨ ckC c (ag3 (aaI c) w) = 9 := by
  have h1 := h.w
  have h4 := h.h
  have h5 := h.k
  unfold ag3
  show ckC c (atP w c.workers (4 + c.heap + c.classes) 1) = 3 ∨ ckC c (atP w c.workers (4 + c.heap + c.classes) 1) = 9
  rw [aGd (show c.workers ≤ 1000 by omega) (show 0 ≤ 4 + c.heap + c.classes ∧ 4 + c.heap + c.classes ≤ 1000 by omega) rfl]
  split
  · rename_i h'
    have h' : 0 ≤ w ∧ w < c.workers := h'
    refine .inl (apJ h ?_)
    show 4 + c.heap ≤ 4 + c.heap + c.classes + w ∧ 4 + c.heap + c.classes + w < _
    rw [alA]; omega
  · exact .inr ahg
theorem aAJ (h : DecOk c) {w : Int} : Fr c (ag3 (aaI c) w) := aqa rfl (by have := aBg h (w := w); omega)
theorem ay0 (h : DecOk c) {w : Int} : ckC c (aaP (aaI c) w) = 3 ∨ ckC c (aaP (aaI c) w) = 9 := by
  have h1 := h.w
  have h4 := h.h
  have h5 := h.k
  unfold aaP
  show ckC c (atP w c.workers (4 + c.heap + c.classes + c.workers) 1) = 3 ∨ ckC c (atP w c.workers (4 + c.heap + c.classes + c.workers) 1) = 9
  rw [aGd (show c.workers ≤ 1000 by omega) (show 0 ≤ 4 + c.heap + c.classes + c.workers ∧ 4 + c.heap + c.classes + c.workers ≤ 1000 by omega) rfl]
  split
  · rename_i h'
    have h' : 0 ≤ w ∧ w < c.workers := h'
    refine .inl (apJ h ?_)
    show 4 + c.heap ≤ 4 + c.heap + c.classes + c.workers + w ∧ 4 + c.heap + c.classes + c.workers + w < _
    rw [alA]; omega
  · exact .inr ahg
theorem apB (h : DecOk c) {w : Int} : Fr c (aaP (aaI c) w) := aqa rfl (by have := ay0 h (w := w); omega)
theorem apP (h : DecOk c) {w : Int} : ckC c (ahq (aaI c) w) = 3 ∨ ckC c (ahq (aaI c) w) = 9 := by
  have h1 := h.w
  have h4 := h.h
  have h5 := h.k
  unfold ahq
  show ckC c (atP w c.classes (4 + c.heap) 1) = 3 ∨ ckC c (atP w c.classes (4 + c.heap) 1) = 9
  rw [aGd (show c.classes ≤ 1000 by omega) (show 0 ≤ 4 + c.heap ∧ 4 + c.heap ≤ 1000 by omega) rfl]
  split
  · rename_i h'
    have h' : 0 ≤ w ∧ w < c.classes := h'
    refine .inl (apJ h ?_)
    show 4 + c.heap ≤ 4 + c.heap + w ∧ 4 + c.heap + w < _
    rw [alA]; omega
  · exact .inr ahg
theorem arV (h : DecOk c) {i : Int} : ckC c (ae0 (aaI c) i) = 2 ∨ ckC c (ae0 (aaI c) i) = 9 := by
  have h4 := h.h
  unfold ae0
  show ckC c (atP i c.heap 4 1) = 2 ∨ ckC c (atP i c.heap 4 1) = 9
  rw [aGd (show c.heap ≤ 1000 by omega) (show (0 : Int) ≤ 4 ∧ (4 : Int) ≤ 1000 by omega) rfl]
  split
  · rename_i h'
    have h' : 0 ≤ i ∧ i < c.heap := h'
    refine .inl ?_
    unfold ckC
    rw [if_neg (by omega), if_neg (by omega), if_neg (by omega), if_pos (by omega)]
  · exact .inr ahg
theorem aC1 (h : DecOk c) {i x : Int} (h1 : 0 ≤ x) (h2 : aot x 65535 < c.tasks) : CellOk c (ae0 (aaI c) i) x := by
  have e := arV h (i := i)
  exact ⟨h1, fun _ => h2, fun k => by omega, fun k => by omega⟩
def bq (c : Cfg) (k : Int) : QV := ⟨(aaI c).queues + k * (2 + c.deque), (aaI c).queues + k * (2 + c.deque) + 1, (aaI c).queues + k * (2 + c.deque) + 2, c.deque⟩
theorem aHg {i n a w : Int} (hn : n ≤ 10) (ha : 0 ≤ a ∧ a ≤ 1000) (hw : 0 ≤ w ∧ w ≤ 100) : atP i n a w = if 0 ≤ i ∧ i < n then a + i * w else -1 := by
  unfold atP
  by_cases h1 : i < 0
  · rw [if_pos h1, if_neg (by omega)]
  rw [if_neg h1]
  by_cases h2 : n ≤ i
  · rw [if_pos h2, if_neg (by omega)]
  have h3 := aAw (a := i) (b := w) (A := 10) (B := 100) (by omega) (by omega) (by omega) (by omega)
  rw [if_neg h2, if_pos (by omega), aaH (x := i * w) (aao (by omega)), aaH (aao (by omega))]
theorem axz (h : DecOk c) (w v : Int) : (¬ ((0 ≤ w ∧ w < c.workers) ∧ 0 ≤ v ∧ v < c.levels) ∧ aaB (aaI c) w v = ⟨-1, -1, -1, 0⟩) ∨ (((0 ≤ w ∧ w < c.workers) ∧ 0 ≤ v ∧ v < c.levels) ∧ (0 ≤ w * c.levels + v ∧ w * c.levels + v < c.workers * c.levels) ∧ aaB (aaI c) w v = bq c (w * c.levels + v)) := by
  have h1 := h.w
  have h2 := h.l
  have h3 := h.q
  have e := af3 h
  have h4 := h.h
  have e1 := aAw (a := c.levels) (b := 2 + c.deque) (A := 4) (B := 6) (by omega) (by omega) (by omega) (by omega)
  have e2 : wi (c.levels * wi (2 + c.deque)) = c.levels * (2 + c.deque) := by
    rw [aaH (x := 2 + c.deque) (aao (by omega)), aaH (aao (by omega))]
  have e3 : wi (2 + c.deque) = 2 + c.deque := aaH (aao (by omega))
  have ea : atP w c.workers (aaI c).queues (c.levels * (2 + c.deque)) = if 0 ≤ w ∧ w < c.workers then (aaI c).queues + w * (c.levels * (2 + c.deque)) else -1 := aHg (by omega) (by omega) (by omega)
  unfold aaB
  show (¬ _ ∧ (if atP w c.workers (aaI c).queues (wi (c.levels * wi (2 + c.deque))) < 0 then _ else if atP v c.levels (atP w c.workers (aaI c).queues (wi (c.levels * wi (2 + c.deque)))) (wi (2 + c.deque)) < 0 then _
    else QV.mk (atP v c.levels (atP w c.workers (aaI c).queues (wi (c.levels * wi (2 + c.deque)))) (wi (2 + c.deque))) (wi (atP v c.levels (atP w c.workers (aaI c).queues (wi (c.levels * wi (2 + c.deque)))) (wi (2 + c.deque)) + 1)) (wi (atP v c.levels (atP w c.workers (aaI c).queues (wi (c.levels * wi (2 + c.deque)))) (wi (2 + c.deque)) + 2)) c.deque) = _) ∨ (_ ∧ _ ∧ (if atP w c.workers (aaI c).queues (wi (c.levels * wi (2 + c.deque))) < 0 then _ else if atP v c.levels (atP w c.workers (aaI c).queues (wi (c.levels * wi (2 + c.deque)))) (wi (2 + c.deque)) < 0 then _
    else QV.mk (atP v c.levels (atP w c.workers (aaI c).queues (wi (c.levels * wi (2 + c.deque)))) (wi (2 + c.deque))) (wi (atP v c.levels (atP w c.workers (aaI c).queues (wi (c.levels * wi (2 + c.deque)))) (wi (2 + c.deque)) + 1)) (wi (atP v c.levels (atP w c.workers (aaI c).queues (wi (c.levels * wi (2 + c.deque)))) (wi (2 + c.deque)) + 2)) c.deque) = _)
  rw [e2, e3, ea]
  by_cases hw : 0 ≤ w ∧ w < c.workers
  · rw [if_pos hw]
    have e4 := aAw (a := w) (b := c.levels * (2 + c.deque)) (A := 4) (B := 24) (by omega) (by omega) (by omega) (by omega)
    have eb : atP v c.levels ((aaI c).queues + w * (c.levels * (2 + c.deque))) (2 + c.deque) = if 0 ≤ v ∧ v < c.levels then (aaI c).queues + w * (c.levels * (2 + c.deque)) + v * (2 + c.deque) else -1 := aHg (by omega) (by omega) (by omega)
    rw [if_neg (by omega), eb]
    by_cases hv : 0 ≤ v ∧ v < c.levels
    · rw [if_pos hv]
      have e5 := aAw (a := v) (b := 2 + c.deque) (A := 4) (B := 6) (by omega) (by omega) (by omega) (by omega)
      have e6 := aAw (a := w) (b := c.levels) (A := 4) (B := 4) (by omega) (by omega) (by omega) (by omega)
      have e7 : (w * c.levels + v) * (2 + c.deque) = w * (c.levels * (2 + c.deque)) + v * (2 + c.deque) := by rw [Int.add_mul, Int.mul_assoc]
      rw [if_neg (by omega)]
      refine .inr ⟨⟨hw, hv⟩, ⟨by omega, ?_⟩, ?_⟩
      · have : c.levels = 1 ∨ c.levels = 2 ∨ c.levels = 3 ∨ c.levels = 4 := by omega
        rcases this with e | e | e | e <;> rw [e] at hv ⊢ <;> omega
      · unfold bq
        rw [e7, aaH (aao (by omega)), aaH (aao (by omega)), ← Int.add_assoc]
    · rw [if_neg hv, if_pos (by omega)]; exact .inl ⟨fun h => hv h.2, rfl⟩
  · rw [if_neg hw, if_pos (by omega)]; exact .inl ⟨fun h => hw h.1, rfl⟩
theorem akQ (h : DecOk c) (w v : Int) : aaB (aaI c) w v = ⟨-1, -1, -1, 0⟩ ∨ ∃ k, 0 ≤ k ∧ k < c.workers * c.levels ∧ aaB (aaI c) w v = bq c k := by
  rcases axz h w v with ⟨_, e⟩ | ⟨_, ⟨e1, e2⟩, e⟩
  · exact .inl e
  · exact .inr ⟨_, e1, e2, e⟩
theorem ayN (h : DecOk c) {k j : Int} (hk : 0 ≤ k ∧ k < c.workers * c.levels) (hj : 0 ≤ j ∧ j < 2 + c.deque) : ckC c ((aaI c).queues + k * (2 + c.deque) + j) = if j < 2 then 4 else 5 := by
  have e := af3 h
  have h4 := h.h
  have h3 := h.q
  have e1 : (k + 1) * (2 + c.deque) ≤ c.workers * c.levels * (2 + c.deque) := Int.mul_le_mul_of_nonneg_right (by omega) (by omega)
  have e2 : (k + 1) * (2 + c.deque) = k * (2 + c.deque) + (2 + c.deque) := by rw [Int.add_mul, Int.one_mul]
  have e3 : 0 ≤ k * (2 + c.deque) := Int.mul_nonneg hk.1 (by omega)
  have e4 : ((aaI c).queues + k * (2 + c.deque) + j - (aaI c).queues) % (2 + c.deque) = j := by
    have : (aaI c).queues + k * (2 + c.deque) + j - (aaI c).queues = j + k * (2 + c.deque) := by omega
    rw [this, Int.add_mul_emod_self_right, Int.emod_eq_of_lt hj.1 hj.2]
  unfold ckC
  rw [if_neg (by omega), if_neg (by omega), if_neg (by omega), if_neg (by omega), if_neg (by omega), if_pos (by omega), e4]
theorem aBH (h : DecOk c) (w v : Int) : Fr c (aaB (aaI c) w v).top := by
  have h3 := h.q
  rcases akQ h w v with e | ⟨k, h1, h2, e⟩ <;> rw [e]
  · exact aqa ahg (by omega)
  · have := ayN h ⟨h1, h2⟩ (j := 0) (by omega)
    rw [Int.add_zero, if_pos (by omega)] at this
    exact aqa this (by omega)
theorem ama (h : DecOk c) (w v : Int) : Fr c (aaB (aaI c) w v).bottom := by
  have h3 := h.q
  rcases akQ h w v with e | ⟨k, h1, h2, e⟩ <;> rw [e]
  · exact aqa ahg (by omega)
  · have := ayN h ⟨h1, h2⟩ (j := 1) (by omega)
    rw [if_pos (by omega)] at this
    exact aqa this (by omega)
theorem arW (h : DecOk c) (w v : Int) {b : Int} (hb : 0 ≤ b) : ckC c (ahi (aaB (aaI c) w v) b) = 5 ∨ ckC c (ahi (aaB (aaI c) w v) b) = 9 := by
  have h3 := h.q
  rcases akQ h w v with e | ⟨k, h1, h2, e⟩ <;> rw [e]
  · refine .inr ?_
    unfold ahi
    rw [if_pos (by show (0 : Int) < 1; omega), ahg]
  · refine .inl ?_
    have e0 := af3 h
    have h4 := h.h
    have h5 := h.rg
    have e1 := aqO (a := b) (b := c.deque) (by omega) hb
    have e2 : k * (2 + c.deque) ≤ c.workers * c.levels * (2 + c.deque) := Int.mul_le_mul_of_nonneg_right (by omega) (by omega)
    have e3 : 0 ≤ k * (2 + c.deque) := Int.mul_nonneg h1 (by omega)
    unfold ahi bq
    simp only
    rw [if_neg (by omega), aiz (x := c.deque) (by omega), aaH (x := Int.tmod b c.deque) (aao (by omega)), aaH (aao (by omega))]
    have := ayN h ⟨h1, h2⟩ (j := 2 + Int.tmod b c.deque) (by omega)
    rw [if_neg (by omega), ← Int.add_assoc] at this
    exact this
theorem aC2 (h : DecOk c) (w v : Int) {b x : Int} (hb : 0 ≤ b) (hx : 0 ≤ x ∧ x < c.tasks) : CellOk c (ahi (aaB (aaI c) w v) b) x := by
  have e := arW h w v hb
  exact ⟨hx.1, fun k => by omega, fun k => hx.2, fun k => by omega⟩
end
theorem aw0 (x : Int) : IntKind.u64.wrap x = x % 18446744073709551616 := by
  simp [IntKind.wrap, IntKind.signed, IntKind.bits]
theorem ag9 (a : Int) : 0 ≤ wu a := (aEe a).1
theorem avB (a b : Int) : 0 ≤ orU a b := ag9 _
theorem ane (a b : Int) : 0 ≤ aot a b := ag9 _
theorem al8 {e : EnvP} {k a v b : Int} : (e.pt k a v).gt b = if b = a ∧ 0 ≤ a ∧ a < (e.m.cells.length : Int) then v else e.gt b := by
  show (e.m.pt k a v).gt b = if _ then v else e.m.gt b
  unfold MemV.pt
  by_cases ha : 0 ≤ a ∧ a < (e.m.cells.length : Int)
  · rw [if_pos ha]
    unfold MemV.gt
    simp only [List.length_set]
    by_cases hb : 0 ≤ b ∧ b < (e.m.cells.length : Int)
    · rw [if_pos hb, if_pos hb]
      by_cases hab : b = a
      · rw [if_pos ⟨hab, ha⟩, hab, ajM ha]
      · rw [if_neg (fun h => hab h.1)]
        show atL _ (e.m.cells.set a.toNat v) b = atL _ e.m.cells b
        unfold atL
        rw [List.getElem?_set_ne (by omega)]
    · rw [if_neg hb, if_neg hb, if_neg (fun (h : b = a ∧ _) => hb (by rw [h.1]; exact h.2))]
  · rw [if_neg ha, if_neg (fun h => ha h.2)]
theorem aut {e : EnvP} {a b : Int} : (e.lk a).gt b = e.gt b := by
  have : (e.pt 1 a (e.gt a)).gt b = e.gt b := by
    rw [al8]
    split
    · rename_i h; rw [h.1]
    · rfl
  exact this
structure MI (c : Cfg) (e : EnvP) : Prop where
  d : DecOk c
  l : e.l = aaI c
  cc : e.c = c
  ok : ∀ a, CellOk c a (e.gt a)
def Pl (c : Cfg) (x : Ev) : Prop := (0 ≤ x.task ∧ x.task < c.tasks) ∧ x.kind ≠ 1 ∧ x.kind ≠ 3 ∧ x.kind ≠ 11 ∧ x.kind ≠ 12
abbrev Lv (c : Cfg) (e : EnvP) (t : Int) : Int := e.gt (aa7 (aaI c) t)
structure Qt (c : Cfg) (e e' : EnvP) : Prop where
  i : MI c e'
  lv : ∀ t, Lv c e' t = Lv c e t
  nx : e'.gt 0 = e.gt 0
  ev : ∃ l, e'.evs = e.evs ++ l ∧ ∀ x ∈ l, Pl c x
section
variable {c : Cfg} {e e' : EnvP} {a v k o t : Int}
theorem MI.p (h : MI c e) (a : Int) : 0 ≤ e.gt a := (h.ok a).p
theorem MI.lk (h : MI c e) : MI c (e.lk a) := ⟨h.d, h.l, h.cc, fun b => by rw [aut]; exact h.ok b⟩
theorem MI.pt (h : MI c e) (hv : CellOk c a v) : MI c (e.pt k a v) := ⟨h.d, h.l, h.cc, fun b => by
  rw [al8]
  split
  · rename_i q; rw [q.1]; exact hv
  · exact h.ok b⟩
theorem Qt.refl (h : MI c e) : Qt c e e := ⟨h, fun _ => rfl, rfl, [], by simp, fun x hx => by cases hx⟩
theorem Qt.lk (h : MI c e) : Qt c e (e.lk a) := ⟨h.lk, fun _ => aut, aut, [], by show e.evs = _; simp, fun x hx => by cases hx⟩
theorem agN (h : DecOk c) : ckC c (aa7 (aaI c) t) = 6 ∨ (ckC c (aa7 (aaI c) t) = 9 ∧ aa7 (aaI c) t = -1) := by
  have e1 := aop h (t := t) (f := 1) (by omega)
  have e2 := aeb h (t := t) (f := 1) (by omega)
  show ckC c (aev (aaI c) t 1) = 6 ∨ (ckC c (aev (aaI c) t 1) = 9 ∧ aev (aaI c) t 1 = -1)
  by_cases ht : 0 ≤ t ∧ t < c.tasks
  · rw [e1, if_pos ht, if_pos rfl]; exact .inl rfl
  · rw [e1, e2, if_neg ht, if_neg ht]; exact .inr ⟨rfl, rfl⟩
theorem agp : ckC c 0 = 0 := by unfold ckC; rw [if_neg (by omega), if_pos rfl]
theorem Qt.wr (h : MI c e) (h0 : ckC c a ≠ 0) (h6 : ckC c a ≠ 6) (hv : CellOk c a v) : Qt c e (e.pt k a v) := by
  refine ⟨h.pt hv, fun t => ?_, ?_, [], by show e.evs = _; simp, fun x hx => by cases hx⟩
  · show (e.pt k a v).gt _ = e.gt _
    rw [al8]
    split
    · rename_i q
      rcases agN h.d (t := t) with h1 | ⟨_, h1⟩
      · rw [q.1] at h1; exact absurd h1 h6
      · omega
    · rfl
  · rw [al8]
    split
    · rename_i q
      rw [← q.1] at h0
      exact absurd agp h0
    · rfl
theorem Qt.fr (h : MI c e) (ha : Fr c a) (hv : 0 ≤ v) : Qt c e (e.pt k a v) := .wr h ha.1 ha.2.2.2 (ha.ok hv)
theorem Qt.cas (h : MI c e) (ha : Fr c a) (hv : 0 ≤ v) : Qt c e (e.cas a o v) := by
  refine Qt.fr h ha ?_
  show 0 ≤ if _ then v else e.m.gt a
  split
  · exact hv
  · exact h.p a
theorem Qt.ring (h : MI c e) (w u : Int) {b : Int} (hb : 0 ≤ b) (hv : 0 ≤ v ∧ v < c.tasks) : Qt c e (e.pt k (ahi (aaB (aaI c) w u) b) v) := by
  have := arW h.d w u hb
  exact .wr h (by omega) (by omega) (aC2 h.d w u hb hv)
def adE (c : Cfg) (k : Int) : Prop := 0 ≤ k ∧ aot k 65535 < c.tasks
theorem Qt.slot (h : MI c e) {i : Int} (hv : adE c v) : Qt c e (e.pt k (ae0 (aaI c) i) v) := by
  have := arV h.d (i := i)
  exact .wr h (by omega) (by omega) (aC1 h.d hv.1 hv.2)
theorem Qt.em {w l : Int} (h : Qt c e e') (ht : 0 ≤ t ∧ t < c.tasks) (hk : k ≠ 1 ∧ k ≠ 3 ∧ k ≠ 11 ∧ k ≠ 12) : Qt c e (e'.em k w t o l) := by
  obtain ⟨m, hm, hp⟩ := h.ev
  refine ⟨⟨h.i.d, h.i.l, h.i.cc, h.i.ok⟩, h.lv, h.nx, m ++ [⟨k, w, t, o, l⟩], ?_, fun x hx => ?_⟩
  · show e'.evs ++ [_] = _
    rw [hm, List.append_assoc]
  · rcases List.mem_append.1 hx with hx | hx
    · exact hp x hx
    · rw [List.mem_singleton.1 hx]
      exact ⟨ht, hk⟩
theorem Qt.pr {r : RecP} (h : Qt c e e') : Qt c e (e'.pr t r) := ⟨⟨h.i.d, h.i.l, h.i.cc, h.i.ok⟩, h.lv, h.nx, h.ev⟩
theorem aus (h : MI c e) (w u : Int) {b : Int} (hb : 0 ≤ b) : 0 ≤ wi (e.gt (ahi (aaB (aaI c) w u) b)) ∧ wi (e.gt (ahi (aaB (aaI c) w u) b)) < c.tasks := by
  have h1 := h.ok (ahi (aaB (aaI c) w u) b)
  have h2 := h.d.t
  have h3 : e.gt (ahi (aaB (aaI c) w u) b) < c.tasks := by
    rcases arW h.d w u hb with h4 | h4
    · exact h1.r h4
    · have : e.gt (ahi (aaB (aaI c) w u) b) = 0 := by
        show e.m.gt _ = 0
        unfold MemV.gt
        rw [if_neg]
        intro h5
        have h6 : ckC c (ahi (aaB (aaI c) w u) b) ≠ 9 := by
          unfold ckC; repeat' split
          all_goals omega
        exact h6 h4
      omega
  have h4 := h1.p
  rw [aaH (aao (by omega))]
  exact ⟨h4, h3⟩
theorem aie (h : MI c e) (i : Int) : adE c (e.gt (ae0 (aaI c) i)) := by
  have h1 := h.ok (ae0 (aaI c) i)
  have h2 := h.d.t
  refine ⟨h1.p, ?_⟩
  rcases arV h.d (i := i) with h4 | h4
  · exact h1.s h4
  · have : e.gt (ae0 (aaI c) i) = 0 := by
      show e.m.gt _ = 0
      unfold MemV.gt
      rw [if_neg]
      intro h5
      have h6 : ckC c (ae0 (aaI c) i) ≠ 9 := by
        unfold ckC; repeat' split
        all_goals omega
      exact h6 h4
    rw [this]
    show aot 0 65535 < _
    have : aot 0 65535 = 0 := by decide
    omega
theorem avP (h : MI c e) (t : Int) : 0 ≤ Lv c e t ∧ Lv c e t < c.levels := by
  have h1 := h.ok (aa7 (aaI c) t)
  have h2 := h.d.l
  refine ⟨h1.p, ?_⟩
  rcases agN h.d (t := t) with h4 | ⟨_, h4⟩
  · exact h1.l h4
  · show e.m.gt (aa7 (aaI c) t) < _
    rw [h4]
    unfold MemV.gt
    rw [if_neg (by omega)]
    omega
end
def Rs.Q {σ : Type} (P : σ → Prop) (F : Int → Int → Prop) : Rs σ → Prop
  | .go s => P s
  | .fin c v => F c v
theorem Rs.Q.ite {σ : Type} {P : σ → Prop} {F : Int → Int → Prop} {p : Prop} [Decidable p] {a b : Rs σ} (h1 : p → a.Q P F) (h2 : ¬ p → b.Q P F) : (if p then a else b).Q P F := by
  split
  · exact h1 ‹_›
  · exact h2 ‹_›
def TOk (c : Cfg) (t : Int) : Prop := 0 ≤ t ∧ t < c.tasks
def ash : OPushS → Prop
  | .l1 => True
  | .l2 b => 0 ≤ b
  | .l3 b => 0 ≤ b
  | .l4 b => 0 ≤ b
def azl : OPopS → Prop
  | .l1 => True
  | .l2 b => 0 ≤ b
  | .l3 b _ => 0 ≤ b
  | .l4 b _ => 0 ≤ b
  | .l5 b _ => 0 ≤ b
  | .l6 b _ => 0 ≤ b
  | .l7 b _ => 0 ≤ b
  | .l8 b _ => 0 ≤ b
  | .l9 b _ => 0 ≤ b
def auP (c : Cfg) : StealS → Prop
  | .l1 => True
  | .l2 t => 0 ≤ t
  | .l3 t => 0 ≤ t
  | .l4 _ v => TOk c (wi v)
def aov (c : Cfg) : InsertS → Prop
  | .l1 => True
  | .l2 _ => True
  | .l3 _ _ k x => adE c k ∧ adE c x
  | .l4 _ _ k x => adE c k ∧ adE c x
  | .l5 _ _ k x => adE c k ∧ adE c x
  | .l6 _ _ k x => adE c k ∧ adE c x
def amn (c : Cfg) : RemoveS → Prop
  | .l1 => True
  | .l2 _ => True
  | .l3 _ x => adE c x
  | .l4 _ x y => adE c x ∧ adE c y
  | .l5 _ _ _ x y z => adE c x ∧ adE c y ∧ adE c z
  | .l6 _ _ _ x y z => adE c x ∧ adE c y ∧ adE c z
  | .l7 _ _ _ x y z => adE c x ∧ adE c y ∧ adE c z
  | .l8 _ _ _ x y z => adE c x ∧ adE c y ∧ adE c z
section
variable {c : Cfg} {e : EnvP} {w v x : Int}
theorem aCU (h : MI c e) (hx : TOk c x) (s : OPushS) (hs : ash s) : Qt c e (agJ (aaB (aaI c) w v) x e s).2 ∧ (agJ (aaB (aaI c) w v) x e s).1.Q ash (fun _ _ => True) := by
  have ht := h.d.t
  cases s with
  | l1 => exact ⟨.lk h, h.p _⟩
  | l2 b => exact ⟨.lk h, .ite (fun _ => trivial) fun _ => hs⟩
  | l3 b => exact ⟨.ring h _ _ hs (by rw [aiz (by unfold TOk at hx; omega)]; exact hx), hs⟩
  | l4 b => exact ⟨.fr h (ama h.d _ _) (ag9 _), trivial⟩
theorem aEQ (h : MI c e) (s : OPopS) (hs : azl s) : Qt c e (ap3 (aaB (aaI c) w v) e s).2 ∧ (ap3 (aaB (aaI c) w v) e s).1.Q azl (fun r x => r = 1 → TOk c x) := by
  cases s with
  | l1 => exact ⟨.lk h, h.p _⟩
  | l2 b => exact ⟨.lk h, .ite (fun _ => fun h => absurd h (by omega)) fun _ => hs⟩
  | l3 b t => exact ⟨.fr h (ama h.d _ _) (ag9 _), hs⟩
  | l4 b t => exact ⟨.lk h, .ite (fun _ => hs) fun _ => .ite (fun _ => hs) fun _ => hs⟩
  | l5 b t => exact ⟨.lk h, fun _ => aus h _ _ (ag9 _)⟩
  | l6 b t => exact ⟨.cas h (aBH h.d _ _) (ag9 _), .ite (fun _ => hs) fun _ => hs⟩
  | l7 b t => exact ⟨.fr h (ama h.d _ _) hs, hs⟩
  | l8 b t => exact ⟨.lk h, fun _ => aus h _ _ (ag9 _)⟩
  | l9 b t => exact ⟨.fr h (ama h.d _ _) hs, fun h => absurd h (by omega)⟩
theorem aCc (h : MI c e) (s : StealS) (hs : auP c s) : Qt c e (akw (aaB (aaI c) w v) e s).2 ∧ (akw (aaB (aaI c) w v) e s).1.Q (auP c) (fun r x => r = 1 → TOk c x) := by
  cases s with
  | l1 => exact ⟨.lk h, h.p _⟩
  | l2 b => exact ⟨.lk h, .ite (fun _ => fun h => absurd h (by omega)) fun _ => hs⟩
  | l3 t => exact ⟨.lk h, aus h _ _ hs⟩
  | l4 t u => exact ⟨.cas h (aBH h.d _ _) (ag9 _), .ite (fun _ => fun _ => hs) fun _ => fun h => absurd h (by omega)⟩
theorem axy {a b : Int} (h : MI c e) (s : ResetS) : Qt c e (ahB (aaP (aaI c) a) b (aaB (aaI c) w v) e s).2 := by
  cases s with
  | l1 => exact .fr h (apB h.d) (ane _ _)
  | l2 => exact .lk h
  | l3 x => exact .lk h
  | l4 x => exact .fr h (apB h.d) (avB _ _)
theorem aGj {a b : Int} (h : MI c e) : Qt c e (aEr (aaP (aaI c) a) b e) := .fr h (apB h.d) (avB _ _)
theorem ak4 {t : Int} (h : MI c e) (ht : TOk c t) : Qt c e (ajE w t e) := by
  unfold ajE
  rw [h.l]
  split
  · split
    · exact (Qt.cas h (agn h.d) (by omega)).em ht (by omega)
    · exact (Qt.cas h (agn h.d) (by omega)).pr.em ht (by omega)
  · exact (Qt.cas h (agn h.d) (by omega)).em ht (by omega)
theorem atb {o : Int} (h : MI c e) : Qt c e (awy o e) := .cas h (apA h.d (by omega)) (ag9 _)
theorem ayp (h : MI c e) : Qt c e (aux e) := .fr h (apA h.d (by omega)) (by omega)
theorem axi (h : MI c e) : ckC c (aiC w e) = 3 ∨ ckC c (aiC w e) = 9 := by
  unfold aiC
  rw [h.l]
  split
  · exact .inr ahg
  · exact apP h.d
theorem azB {j : Int} (h : MI c e) : ckC c (anE v j e) = 3 ∨ ckC c (anE v j e) = 9 := by
  unfold anE
  rw [h.l]
  split
  · exact .inr ahg
  · exact apP h.d
theorem aoR (h : MI c e) : Fr c (aiC w e) := aqa rfl (by have := axi (w := w) h; omega)
theorem azA {j : Int} (h : MI c e) : Fr c (anE v j e) := aqa rfl (by have := azB (v := v) (j := j) h; omega)
theorem TOk.zero (h : DecOk c) : 0 ≤ (0 : Int) ∧ 0 < c.tasks := by have := h.t; omega
theorem aCi (h : MI c e) (s : SleepS) : Qt c e (aiB w e s).2 := by
  have hz := TOk.zero h.d
  cases s with
  | l1 => exact .lk h
  | l2 ep => exact .fr h (aoR h) (avB _ _)
  | l3 ep => exact .lk h
  | l4 ep v =>
    simp only [aiB]
    split
    · exact .lk h
    · split
      · exact (Qt.lk h).em hz (by omega)
      · exact .lk h
  | l5 ep v s =>
    simp only [aiB]
    split
    · exact (Qt.lk h).em hz (by omega)
    · split
      · exact (Qt.lk h).em hz (by omega)
      · exact .lk h
  | l6 _ _ _ => exact .fr h (aoR h) (ane _ _)
  | l7 _ _ _ => exact .fr h (aoR h) (ane _ _)
theorem asq (h : MI c e) (s : WakeS) : Qt c e (afy w v e s).2 := by
  have hz := TOk.zero h.d
  cases s with
  | l1 j => exact .lk h
  | l2 j x => exact .fr h (azA h) (ane _ _)
  | l3 j x =>
    show Qt c e ((e.pt 6 (ag3 e.l x) _).em 18 w 0 x 0)
    rw [h.l]
    exact (Qt.fr h (aAJ h.d) (ag9 _)).em hz (by omega)
theorem aCK (h : MI c e) (s : ProbeS) : Qt c e (anp w e s).2 := by
  have g : ∀ s i bm, Qt c e (akA w e s i bm).2 := fun s i bm => by
    unfold akA
    split
    · exact .refl h
    · simp only
      split
      · exact .lk h
      · exact .lk h
  cases s with
  | new => exact g _ _ _
  | run s i bm => exact g _ _ _
end
theorem alO (a : Int) : (BitVec.ofInt 64 a).toNat = (a % 18446744073709551616).toNat := by
  rw [BitVec.toNat_ofInt]; rfl
theorem auV {n : Nat} (h : n < 18446744073709551616) : IntKind.u64.wrap (n : Int) = (n : Int) := by
  rw [aw0]; omega
theorem axT (a b : Int) : orU a b = (((a % 18446744073709551616).toNat ||| (b % 18446744073709551616).toNat : Nat) : Int) := by
  show IntKind.u64.wrap ((BitVec.ofInt 64 a ||| BitVec.ofInt 64 b).toNat : Int) = _
  rw [BitVec.toNat_or, alO, alO, auV]
  exact Nat.or_lt_two_pow (n := 64) (by omega) (by omega)
theorem asb (a : Int) : aot a 65535 = (((a % 18446744073709551616).toNat % 65536 : Nat) : Int) := by
  show IntKind.u64.wrap ((BitVec.ofInt 64 a &&& BitVec.ofInt 64 65535).toNat : Int) = _
  have e : ((65535 : Int) % 18446744073709551616).toNat = 2 ^ 16 - 1 := by decide
  rw [BitVec.toNat_and, alO, alO, e, Nat.and_two_pow_sub_one_eq_mod, auV (by omega)]
theorem axV (a b : Int) : (orU a b).toNat % 65536 = ((a % 18446744073709551616).toNat % 65536) ||| ((b % 18446744073709551616).toNat % 65536) := by
  rw [axT, Int.toNat_natCast]
  exact Nat.or_mod_two_pow (n := 16)
theorem axU (a b : Int) : orU a b % 18446744073709551616 = orU a b := by
  have h : (a % 18446744073709551616).toNat ||| (b % 18446744073709551616).toNat < 2 ^ 64 := Nat.or_lt_two_pow (by omega) (by omega)
  rw [axT]
  omega
theorem aAb {d a t : Int} (ht : 0 ≤ t ∧ t ≤ 65535) : aot (ao6 d a t).1 65535 = t ∨ (ao6 d a t).1 = 0 := by
  unfold ao6
  by_cases h1 : d < 0
  · rw [if_pos h1]; exact .inr rfl
  rw [if_neg h1]
  by_cases h2 : 16777215 < d
  · rw [if_pos h2]; exact .inr rfl
  rw [if_neg h2]
  by_cases h3 : a < 0
  · rw [if_pos h3]; exact .inr rfl
  rw [if_neg h3]
  by_cases h4 : 16777215 < a
  · rw [if_pos h4]; exact .inr rfl
  rw [if_neg h4, if_neg (by omega), if_neg (by omega)]
  refine .inl ?_
  simp only
  rw [asb, axU, axV, axU, axV]
  have p40 : (2 : Int) ^ min (40 : Int).toNat IntKind.u64.bits = 1099511627776 := by decide
  have p16 : (2 : Int) ^ min (16 : Int).toNat IntKind.u64.bits = 65536 := by decide
  rw [p40, p16, aiz (x := d) (by omega), aiz (x := a) (by omega), aiz (x := t) (by omega)]
  have e1 : ((wu (d * 1099511627776)) % 18446744073709551616).toNat % 65536 = 0 := by
    have : wu (d * 1099511627776) = d * 1099511627776 % 18446744073709551616 := aw0 _
    rw [this]; omega
  have e2 : ((wu (a * 65536)) % 18446744073709551616).toNat % 65536 = 0 := by
    have : wu (a * 65536) = a * 65536 % 18446744073709551616 := aw0 _
    rw [this]; omega
  rw [e1, e2]
  simp
  omega
theorem aCL {c : Cfg} (hd : DecOk c) {d a t : Int} (ht : TOk c t) : adE c (ao6 d a t).1 := by
  have h := hd.t
  have h2 : 0 ≤ (ao6 d a t).1 := by
    unfold ao6
    repeat' split
    all_goals first | exact Int.le_refl 0 | exact avB _ _
  refine ⟨h2, ?_⟩
  rcases aAb (d := d) (a := a) (t := t) (by unfold TOk at ht; omega) with e | e
  · rw [e]; exact ht.2
  · rw [e, asb]; simp; omega
theorem arB {c : Cfg} (hd : DecOk c) {k : Int} (hk : adE c k) : TOk c (atf k) := by
  have h := hd.t
  have e : atf k = aot k 65535 := by
    show wi (aot k 65535) = _
    have h1 := ane k 65535
    have h2 := hk.2
    exact aaH (aao (by omega))
  unfold TOk
  rw [e]
  exact ⟨ane _ _, hk.2⟩
theorem arA {c : Cfg} (hd : DecOk c) : adE c 0 := by
  have h := hd.t
  refine ⟨Int.le_refl 0, ?_⟩
  rw [asb]; simp; omega
section
variable {c : Cfg} {e : EnvP} {w x : Int}
theorem avn {n i k x : Int} (h1 : adE c k) (h2 : adE c x) : aov c (asU n i k x) := by
  unfold asU
  split
  · exact ⟨h1, h2⟩
  · exact ⟨h1, h2⟩
theorem avO {d t : Int} (h : MI c e) (ht : TOk c t) (s : InsertS) (hs : aov c s) : Qt c e (adL d t e s).2 ∧ (adL d t e s).1.Q (aov c) (fun _ _ => True) := by
  cases s with
  | l1 => exact ⟨.lk h, .ite (fun _ => trivial) fun _ => trivial⟩
  | l2 n => exact ⟨.fr h (apA h.d (by omega)) (ag9 _), .ite (fun _ => avn (aCL h.d ht) (arA h.d)) fun _ => trivial⟩
  | l3 n i k x =>
    unfold adL
    rw [h.l]
    exact ⟨.lk h, .ite (fun _ => ⟨hs.1, aie h _⟩) fun _ => ⟨hs.1, aie h _⟩⟩
  | l4 n i k x =>
    unfold adL
    rw [h.l]
    exact ⟨.slot h hs.2, avn hs.1 hs.2⟩
  | l5 n i k x =>
    unfold adL
    rw [h.l]
    exact ⟨.slot h hs.1, hs⟩
  | l6 n i k x => exact ⟨.fr h (apA h.d (by omega)) (ag9 _), trivial⟩
theorem av5 {n i d x y z : Int} (h1 : adE c x) (h2 : adE c y) (h3 : adE c z) : amn c (atx n i d x y z) := by
  unfold atx
  split
  · exact ⟨h1, h2, h3⟩
  · exact ⟨h1, h2, h3⟩
theorem auB {n i d x y z : Int} (h1 : adE c x) (h2 : adE c y) (h3 : adE c z) : amn c (awE n i d x y z) := by
  unfold awE
  split
  · exact ⟨h1, h2, h3⟩
  · exact ⟨h1, h2, h3⟩
theorem az5 (h : MI c e) (s : RemoveS) (hs : amn c s) : Qt c e (adV w e s).2 ∧ (adV w e s).1.Q (amn c) (fun r x => r ≠ 2 → TOk c x) := by
  cases s with
  | l1 => exact ⟨.lk h, .ite (fun _ => fun h => absurd rfl h) fun _ => trivial⟩
  | l2 n =>
    unfold adV
    rw [h.l]
    exact ⟨.lk h, aie h _⟩
  | l3 n x =>
    unfold adV
    rw [h.l]
    exact ⟨.lk h, hs, aie h _⟩
  | l4 n x y => exact ⟨(Qt.fr h (apA h.d (by omega)) (ag9 _)).em (arB h.d hs.1) (by omega), .ite (fun _ => fun _ => arB h.d hs.1) fun _ => av5 hs.1 hs.2 (arA h.d)⟩
  | l5 n i d x y z =>
    unfold adV
    rw [h.l]
    exact ⟨.lk h, .ite (fun _ => ⟨hs.1, hs.2.1, aie h _⟩) fun _ => auB hs.1 hs.2.1 (aie h _)⟩
  | l6 n i d x y z =>
    unfold adV
    rw [h.l]
    exact ⟨.lk h, .ite (fun _ => auB hs.1 hs.2.1 (aie h _)) fun _ => auB hs.1 hs.2.1 hs.2.2⟩
  | l7 n i d x y z =>
    unfold adV
    rw [h.l]
    exact ⟨.slot h hs.2.2, av5 hs.1 hs.2.1 hs.2.2⟩
  | l8 n i d x y z =>
    unfold adV
    rw [h.l]
    exact ⟨.slot h hs.2.1, fun _ => arB h.d hs.1⟩
end
structure Rsd (c : Cfg) (e e' : EnvP) (t v : Int) : Prop where
  i : MI c e'
  tk : TOk c t
  vk : 0 ≤ v ∧ v < c.levels
  up : Lv c e t < v
  now : Lv c e' t = v
  ot : ∀ u, u ≠ t → Lv c e' u = Lv c e u
  nx : e'.gt 0 = e.gt 0
  ev : ∃ k w o l, (k = 11 ∨ k = 12) ∧ e'.evs = e.evs ++ (⟨k, w, t, o, v⟩ :: l) ∧ ∀ x ∈ l, Pl c x
def Rz (c : Cfg) (e e' : EnvP) : Prop := Qt c e e' ∨ ∃ t v, Rsd c e e' t v
section
variable {c : Cfg} {e e' : EnvP} {w v x : Int}
theorem Rsd.em {t v k w u o l : Int} (h : Rsd c e e' t v) (ht : 0 ≤ u ∧ u < c.tasks) (hk : k ≠ 1 ∧ k ≠ 3 ∧ k ≠ 11 ∧ k ≠ 12) : Rsd c e (e'.em k w u o l) t v := by
  obtain ⟨k1, w1, o1, m, h1, hm, hp⟩ := h.ev
  refine ⟨⟨h.i.d, h.i.l, h.i.cc, h.i.ok⟩, h.tk, h.vk, h.up, h.now, h.ot, h.nx, k1, w1, o1, m ++ [⟨k, w, u, o, l⟩], h1, ?_, fun x hx => ?_⟩
  · show e'.evs ++ [_] = _
    rw [hm, List.append_assoc, List.cons_append]
  · rcases List.mem_append.1 hx with hx | hx
    · exact hp x hx
    · rw [List.mem_singleton.1 hx]
      exact ⟨ht, hk⟩
theorem Rz.em {k w u o l : Int} (h : Rz c e e') (ht : 0 ≤ u ∧ u < c.tasks) (hk : k ≠ 1 ∧ k ≠ 3 ∧ k ≠ 11 ∧ k ≠ 12) : Rz c e (e'.em k w u o l) := by
  rcases h with h | ⟨t, v, h⟩
  · exact .inl (h.em ht hk)
  · exact .inr ⟨t, v, h.em ht hk⟩
theorem Rz.i (h : Rz c e e') : MI c e' := by
  rcases h with h | ⟨t, v, h⟩
  · exact h.i
  · exact h.i
theorem Qt.same (h : MI c e) (h1 : ∀ b, e'.gt b = e.gt b) (h2 : e'.l = e.l) (h3 : e'.c = e.c) (h4 : e'.evs = e.evs) : Qt c e e' :=
  ⟨⟨h.d, by rw [h2]; exact h.l, by rw [h3]; exact h.cc, fun a => by rw [h1]; exact h.ok a⟩, fun t => h1 _, h1 _, [], by rw [h4]; simp, fun x hx => by cases hx⟩
theorem atz {a o v b : Int} : (e.cas a o v).gt b = if e.hit a o = true ∧ b = a then v else e.gt b := by
  have h : (e.cas a o v).gt b = (e.pt 3 a (if e.m.gt a = o then v else e.m.gt a)).gt b := rfl
  rw [h, al8]
  by_cases hr : 0 ≤ a ∧ a < (e.m.cells.length : Int)
  · have hg : e.m.gt a = afQ e.m.cells a := by unfold MemV.gt; rw [if_pos hr]
    by_cases hh : afQ e.m.cells a = o
    · have h1 : e.hit a o = true := by show decide _ = true; rw [decide_eq_true ⟨hr, hh⟩]
      by_cases hb : b = a
      · rw [if_pos (show b = a ∧ 0 ≤ a ∧ a < (e.m.cells.length : Int) from ⟨hb, hr⟩), if_pos (show e.hit a o = true ∧ b = a from ⟨h1, hb⟩), hg, if_pos hh]
      · rw [if_neg (show ¬ (b = a ∧ 0 ≤ a ∧ a < (e.m.cells.length : Int)) from fun h => hb h.1), if_neg (show ¬ (e.hit a o = true ∧ b = a) from fun h => hb h.2)]
    · have h1 : ¬ e.hit a o = true := by
        show ¬ decide _ = true
        rw [decide_eq_true_iff]
        exact fun h => hh h.2
      rw [if_neg (show ¬ (e.hit a o = true ∧ b = a) from fun h => h1 h.1)]
      by_cases hb : b = a
      · rw [if_pos (show b = a ∧ 0 ≤ a ∧ a < (e.m.cells.length : Int) from ⟨hb, hr⟩), hg, if_neg hh, hb]; exact hg.symm
      · rw [if_neg (show ¬ (b = a ∧ 0 ≤ a ∧ a < (e.m.cells.length : Int)) from fun h => hb h.1)]
  · have h1 : ¬ e.hit a o = true := by
      show ¬ decide _ = true
      rw [decide_eq_true_iff]
      exact fun h => hr h.1
    rw [if_neg (show ¬ (e.hit a o = true ∧ b = a) from fun h => h1 h.1), if_neg (show ¬ (b = a ∧ 0 ≤ a ∧ a < (e.m.cells.length : Int)) from fun h => hr h.2)]
theorem Qt.miss {a o v : Int} (h : MI c e) (hm : ¬ e.hit a o = true) : Qt c e (e.cas a o v) := .same h (fun b => by rw [atz, if_neg (fun h => hm h.1)]) rfl rfl rfl
theorem aFm {a o : Int} (h : e.hit a o = true) : e.gt a = o ∧ 0 ≤ a := by
  have h : decide ((0 ≤ a ∧ a < (e.m.cells.length : Int)) ∧ afQ e.m.cells a = o) = true := h
  have h := of_decide_eq_true h
  refine ⟨?_, h.1.1⟩
  show e.m.gt a = o
  unfold MemV.gt
  rw [if_pos h.1]; exact h.2
theorem atd (hd : DecOk c) {t u : Int} (ht : TOk c t) (h : aa7 (aaI c) u = aa7 (aaI c) t) : u = t := by
  have e1 := aeb hd (t := t) (f := 1) (by omega)
  have e2 := aeb hd (t := u) (f := 1) (by omega)
  have e3 := af3 hd
  have h4 := hd.h
  have h : aev (aaI c) u 1 = aev (aaI c) t 1 := h
  have ht : 0 ≤ t ∧ t < c.tasks := ht
  rw [e1, e2, if_pos ht] at h
  by_cases hu : 0 ≤ u ∧ u < c.tasks
  · rw [if_pos hu] at h; omega
  · rw [if_neg hu] at h; omega
theorem avK (hd : DecOk c) {t v : Int} (hv : 0 ≤ v ∧ v < c.levels) : CellOk c (aa7 (aaI c) t) v := by
  have e := agN hd (t := t)
  exact ⟨hv.1, fun k => by omega, fun k => by omega, fun k => hv.2⟩
theorem axq (h : MI c e) {t q v k w o : Int} (ht : TOk c t) (hv : 0 ≤ v ∧ v < c.levels) (hq : q < v) (hh : e.hit (aa7 (aaI c) t) q = true) (hk : k = 11 ∨ k = 12) : Rsd c e ((e.cas (aa7 (aaI c) t) q v).em k w t o v) t v := by
  have hg := aFm hh
  refine ⟨⟨h.d, h.l, h.cc, fun b => ?_⟩, ht, hv, by show e.gt _ < v; omega, ?_, fun u hu => ?_, ?_, k, w, o, [], hk, rfl, fun x hx => by cases hx⟩
  · show CellOk c b ((e.cas _ q v).gt b)
    rw [atz]
    split
    · rename_i q; rw [q.2]; exact avK h.d hv
    · exact h.ok b
  · show (e.cas _ q v).gt _ = v
    rw [atz, if_pos ⟨hh, rfl⟩]
  · show (e.cas _ q v).gt _ = e.gt _
    rw [atz, if_neg (fun h' => hu (atd h.d ht h'.2))]
  · show (e.cas _ q v).gt 0 = e.gt 0
    rw [atz, if_neg]
    intro h'
    have h1 := agN h.d (t := t)
    rw [← h'.2, agp] at h1
    omega
def asf (v : Int) : RaiseS → Prop
  | .l1 _ => True
  | .l2 q => q < v
theorem aCF {t : Int} (h : MI c e) (s : RaiseS) (hs : asf v s) : Rz c e (afA w t v e s).2 ∧ (afA w t v e s).1.Q (asf v) (fun _ _ => True) := by
  unfold afA
  rw [h.l]
  split
  · exact ⟨.inl (.refl h), trivial⟩
  rename_i hf
  have hf : awZ e t v := Classical.not_not.1 hf
  unfold awZ at hf
  rw [h.cc] at hf
  have hl := h.d.l
  cases s with
  | l1 q =>
    refine ⟨.inl (.lk h), ?_⟩
    have hg := avP h t
    have e1 : wi (Lv c e t) = Lv c e t := aaH (aao (by omega))
    show Rs.Q _ _ (if v ≤ wi (Lv c e t) then _ else _)
    rw [e1]
    exact .ite (fun _ => trivial) fun hn => by show Lv c e t < v; omega
  | l2 q =>
    have e2 : wu v = v := aiz (by omega)
    simp only
    split
    · rename_i hh
      rw [e2]
      exact ⟨.inr ⟨t, v, axq h hf.1 hf.2 hs hh (.inl rfl)⟩, trivial⟩
    · rename_i hh
      exact ⟨.inl (.miss h hh), trivial⟩
def ajQ : LPushS → Prop
  | .push s => ash s
  | _ => True
theorem apj (h : MI c e) (hx : TOk c x) (s : LPushS) (hs : ajQ s) : Qt c e (acM w v x e s).2 ∧ (acM w v x e s).1.Q ajQ (fun _ _ => True) := by
  have g : ∀ s, ash s → Qt c e (match agJ (aaB e.l w v) x e s with
      | (.go s, e') => (Rs.go (LPushS.push s), e')
      | (.fin c _, e') => (if c = 3 then .fin 3 0 else .go .set, e')).2 ∧ (match agJ (aaB e.l w v) x e s with
      | (.go s, e') => (Rs.go (LPushS.push s), e')
      | (.fin c _, e') => (if c = 3 then .fin 3 0 else .go .set, e')).1.Q ajQ (fun _ _ => True) := fun s hs => by
    have := aCU (w := w) (v := v) h hx s hs
    rw [h.l]
    revert this
    rcases agJ (aaB (aaI c) w v) x e s with ⟨r, e'⟩
    intro this
    cases r with
    | go s => exact this
    | fin c0 v0 => exact ⟨this.1, .ite (fun _ => trivial) fun _ => trivial⟩
  cases s with
  | new => exact g .l1 trivial
  | push s => exact g _ hs
  | set =>
    refine ⟨?_, trivial⟩
    show Qt c e (aEr (aaP e.l w) v e)
    rw [h.l]
    exact aGj h
def azm : LPopS → Prop
  | .l2 _ s => azl s
  | _ => True
theorem aFi (h : MI c e) (s : LPopS) (hs : azm s) : Qt c e (ako w e s).2 ∧ (ako w e s).1.Q azm (fun r x => r ≠ 2 → TOk c x) := by
  cases s with
  | l1 v =>
    unfold ako
    exact ⟨.lk h, .ite (fun _ => fun h => absurd rfl h) fun _ => trivial⟩
  | l2 v s =>
    have := aEQ (w := w) (v := v) h s hs
    simp only [ako]
    rw [h.l]
    revert this
    rcases ap3 (aaB (aaI c) w v) e s with ⟨r, e'⟩
    intro this
    cases r with
    | go s => exact this
    | fin c0 v0 => exact ⟨this.1, .ite (fun hc => fun _ => this.2 hc) fun _ => trivial⟩
  | l3 v s =>
    have := axy (w := w) (v := v) (a := w) (b := v) h s
    simp only [ako]
    rw [h.l]
    revert this
    rcases ahB (aaP (aaI c) w) v (aaB (aaI c) w v) e s with ⟨r, e'⟩
    intro this
    cases r with
    | go s => exact ⟨this, trivial⟩
    | fin c0 v0 => exact ⟨this, trivial⟩
def aqK (c : Cfg) (v : Int) : WalkS → Prop
  | .l1 _ => True
  | .raise t s => TOk c t ∧ asf v s
  | .l2 t => TOk c t
  | .push t s => TOk c t ∧ ajQ s
  | .l4 _ => True
theorem aEh (h : MI c e) (s : WalkS) (hs : aqK c v s) : Rz c e (aha w v e s).2 ∧ (aha w v e s).1.Q (aqK c v) (fun _ _ => True) := by
  have g : ∀ t s, TOk c t → asf v s → Rz c e (match afA w t v e s with
      | (.go s, e') => (Rs.go (WalkS.raise t s), e')
      | (.fin c _, e') => (.go (if c = 1 then .l2 t else .l4 t), e')).2 ∧ (match afA w t v e s with
      | (.go s, e') => (Rs.go (WalkS.raise t s), e')
      | (.fin c _, e') => (.go (if c = 1 then .l2 t else .l4 t), e')).1.Q (aqK c v) (fun _ _ => True) := fun t s ht hs => by
    have := aCF (w := w) (t := t) h s hs
    revert this
    rcases afA w t v e s with ⟨r, e'⟩
    intro this
    cases r with
    | go s => exact ⟨this.1, ht, this.2⟩
    | fin c0 v0 =>
      refine ⟨this.1, ?_⟩
      show aqK c v (if c0 = 1 then .l2 t else .l4 t)
      split
      · exact ht
      · trivial
  cases s with
  | l1 t =>
    simp only [aha]
    split
    · exact ⟨.inl (.refl h), trivial⟩
    · rename_i hf
      have hf : awZ e t v := Classical.not_not.1 hf
      unfold awZ at hf
      rw [h.cc] at hf
      exact g t _ hf.1 trivial
  | raise t s => exact g t s hs.1 hs.2
  | l2 t =>
    refine ⟨.inl (.lk h), ?_⟩
    show aqK c v (if e.gt (ac7 e.l t) = 1 then .push t .new else .l4 t)
    split
    · exact ⟨hs, trivial⟩
    · trivial
  | push t s =>
    have := apj (w := w) (v := v) h hs.1 s hs.2
    simp only [aha]
    revert this
    rcases acM w v t e s with ⟨r, e'⟩
    intro this
    cases r with
    | go s => exact ⟨.inl this.1, hs.1, this.2⟩
    | fin c0 v0 =>
      refine ⟨.inl ?_, trivial⟩
      show Qt c e (if c0 = 3 then e'.em 19 w t 0 v else e')
      split
      · exact this.1.em hs.1 (by omega)
      · exact this.1
  | l4 t =>
    simp only [aha]
    exact ⟨.inl (.lk h), .ite (fun _ => trivial) fun _ => trivial⟩
def auR : EnterS → Prop
  | .l4 _ s => ajQ s
  | _ => True
theorem aDE {t : Int} (h : MI c e) (ht : TOk c t) (s : EnterS) (hs : auR s) : Qt c e (aeQ w t e s).2 ∧ (aeQ w t e s).1.Q auR (fun _ _ => True) := by
  cases s with
  | l1 =>
    simp only [aeQ]
    rw [h.l]
    split
    · exact ⟨.refl h, trivial⟩
    · exact ⟨.fr h (aok h.d) (ag9 _), trivial⟩
  | l2 =>
    simp only [aeQ]
    rw [h.l]
    exact ⟨.fr h (agn h.d) (by omega), trivial⟩
  | l3 => exact ⟨.lk h, trivial⟩
  | l4 v s =>
    have := apj (w := w) (v := v) h ht s hs
    simp only [aeQ]
    revert this
    rcases acM w v t e s with ⟨r, e'⟩
    intro this
    cases r with
    | go s => exact this
    | fin c0 v0 => exact ⟨this.1, trivial⟩
def auO (c : Cfg) : SweepS → Prop
  | .l4 q => 0 ≤ q ∧ q + 1 < c.levels
  | .l6 _ s => ajQ s
  | _ => True
theorem aB1 {t : Int} (h : MI c e) (ht : TOk c t) (s : SweepS) (hs : auO c s) : Rz c e (abZ w t e s).2 ∧ (abZ w t e s).1.Q (auO c) (fun _ _ => True) := by
  have hl := h.d.l
  cases s with
  | l1 =>
    simp only [abZ]
    split
    · exact ⟨.inl (.refl h), trivial⟩
    · exact ⟨.inl (.lk h), .ite (fun _ => trivial) fun _ => trivial⟩
  | l2 =>
    simp only [abZ]
    exact ⟨.inl (.lk h), .ite (fun _ => trivial) fun _ => trivial⟩
  | l3 =>
    simp only [abZ]
    rw [h.l, h.cc]
    refine ⟨.inl (.lk h), .ite (fun _ => trivial) fun hn => ?_⟩
    have hg := avP h t
    have e1 : wi (Lv c e t) = Lv c e t := aaH (aao (by omega))
    have e2 : wi (c.levels - 1) = c.levels - 1 := aaH (aao (by omega))
    have hn : ¬ wi (c.levels - 1) ≤ wi (Lv c e t) := hn
    rw [e1, e2] at hn
    show 0 ≤ Lv c e t ∧ Lv c e t + 1 < c.levels
    omega
  | l4 q =>
    have hs : 0 ≤ q ∧ q + 1 < c.levels := hs
    have e1 : wu (q + 1) = q + 1 := aiz (by omega)
    have e2 : wi (wi q + 1) = q + 1 := by rw [aaH (x := q) (aao (by omega)), aaH (aao (by omega))]
    simp only [abZ]
    rw [h.l, e1, e2]
    split
    · rename_i hh
      exact ⟨.inr ⟨t, q + 1, axq h ht (by omega) (by omega) hh (.inr rfl)⟩, trivial⟩
    · rename_i hh
      exact ⟨.inl (.miss h hh), trivial⟩
  | l5 q =>
    simp only [abZ]
    rw [h.l]
    exact ⟨.inl (.fr h (aok h.d) (ag9 _)), trivial⟩
  | l6 q s =>
    have := apj (w := w) (v := wi (wi q + 1)) h ht s hs
    simp only [abZ]
    revert this
    rcases acM w (wi (wi q + 1)) t e s with ⟨r, e'⟩
    intro this
    cases r with
    | go s => exact ⟨.inl this.1, this.2⟩
    | fin c0 v0 =>
      refine ⟨.inl ?_, trivial⟩
      show Qt c e (if c0 = 3 then e'.em 19 w t 0 _ else e')
      split
      · exact this.1.em ht (by omega)
      · exact this.1
def azk (c : Cfg) : TakeS → Prop
  | .pop s => azm s
  | .claim t => TOk c t
theorem aEp (h : MI c e) (s : TakeS) (hs : azk c s) : Qt c e (anG w e s).2 ∧ (anG w e s).1.Q (azk c) (fun r x => r = 1 → TOk c x) := by
  cases s with
  | pop s =>
    have := aFi (w := w) h s hs
    simp only [anG]
    revert this
    rcases ako w e s with ⟨r, e'⟩
    intro this
    cases r with
    | go s => exact this
    | fin c0 v0 => exact ⟨this.1, .ite (fun _ => fun h => absurd h (by omega)) fun hn => this.2 hn⟩
  | claim t => exact ⟨ak4 h hs, .ite (fun _ => fun _ => hs) fun _ => trivial⟩
def awd (c : Cfg) (d : DrainS) : Prop := (d.direct = true → TOk c d.x) ∧ match d.c with
  | .l3 s => amn c s
  | .l4 => TOk c d.x
  | .l5 s => TOk c d.x ∧ ajQ s
  | _ => True
theorem avW {d : DrainS} (h : d.direct = true → TOk c d.x) : (anx d).Q (awd c) (fun r x => r = 1 → TOk c x) := by
  unfold anx
  exact .ite (fun k => fun _ => h k) fun _ => .ite (fun _ => fun h => absurd h (by omega)) fun _ => fun h => absurd h (by omega)
theorem aDF (h : MI c e) (d : DrainS) (hd : awd c d) : Qt c e (aci w e d).2 ∧ (aci w e d).1.Q (awd c) (fun r x => r = 1 → TOk c x) := by
  obtain ⟨x, dir, p, last, cnt, k⟩ := d
  obtain ⟨h1, h2⟩ := hd
  cases k with
  | l1 =>
    simp only [aci]
    exact ⟨.lk h, .ite (fun _ => fun h => absurd h (by omega)) fun _ => ⟨h1, trivial⟩⟩
  | l2 =>
    simp only [aci]
    exact ⟨atb h, .ite (fun _ => ⟨h1, trivial⟩) fun _ => fun h => absurd h (by omega)⟩
  | l3 s =>
    have := az5 (w := w) h s h2
    simp only [aci]
    revert this
    rcases adV w e s with ⟨r, e'⟩
    intro this
    cases r with
    | go s => exact ⟨this.1, h1, this.2⟩
    | fin c0 v0 => exact ⟨this.1, .ite (fun _ => ⟨h1, trivial⟩) fun hn => ⟨fun _ => this.2 hn, this.2 hn⟩⟩
  | l4 =>
    simp only [aci]
    exact ⟨.lk h, h1, h2, trivial⟩
  | l5 s =>
    have := apj (w := w) (v := p) h h2.1 s h2.2
    simp only [aci]
    revert this
    rcases acM w p x e s with ⟨r, e'⟩
    intro this
    cases r with
    | go s => exact ⟨this.1, h1, h2.1, this.2⟩
    | fin c0 v0 => exact ⟨this.1, .ite (fun _ => ⟨fun _ => h2.1, trivial⟩) fun _ => .ite (fun _ => ⟨h1, trivial⟩) fun _ => ⟨h1, trivial⟩⟩
  | l6 =>
    simp only [aci]
    exact ⟨ayp h, .ite (fun _ => ⟨h1, trivial⟩) fun _ => avW h1⟩
  | l7 s =>
    have := asq (w := w) (v := last) h s
    simp only [aci]
    revert this
    rcases afy w last e s with ⟨r, e'⟩
    intro this
    cases r with
    | go s => exact ⟨this, h1, trivial⟩
    | fin c0 v0 => exact ⟨this, avW h1⟩
end
structure Al (c : Cfg) (e e' : EnvP) : Prop where
  i : MI c e'
  lv : ∀ t, Lv c e' t = Lv c e t
  nx : e'.gt 0 = wu (e.gt 0 + 1) ∨ e'.gt 0 = e.gt 0
  ev : ∃ l, e'.evs = e.evs ++ l ∧ ∀ x ∈ l, Pl c x
structure Al1 (c : Cfg) (e e' : EnvP) : Prop where
  a : Al c e e'
  n : e'.gt 0 = wu (e.gt 0 + 1)
structure W0 (c : Cfg) (e e' : EnvP) (t v : Int) : Prop where
  i : MI c e'
  now : Lv c e' t = v
  ot : ∀ u, u ≠ t → Lv c e' u = Lv c e u
  nx : e'.gt 0 = e.gt 0
  ev : e'.evs = e.evs
structure An (c : Cfg) (e e' : EnvP) (t v : Int) : Prop where
  i : MI c e'
  lv : ∀ t, Lv c e' t = Lv c e t
  nx : e'.gt 0 = e.gt 0
  ev : ∃ l k w o, (k = 1 ∨ k = 3) ∧ (∀ x ∈ l, Pl c x) ∧ e'.evs = e.evs ++ l ++ [⟨k, w, t, o, v⟩]
abbrev amp := Option (Int × Int × Bool)
inductive Tr (c : Cfg) (e e' : EnvP) : amp → amp → Prop
  | same (p : amp) (h : Rz c e e') : Tr c e e' p p
  | drop (p : amp) (h : Rz c e e') : Tr c e e' p none
  | al (h : Al c e e') : Tr c e e' none none
  | al1 (v : Int) (h : Al1 c e e') (ht : TOk c (wi (e.gt 0))) (hv : 0 ≤ v ∧ v < c.levels) : Tr c e e' none (some (wi (e.gt 0), v, false))
  | w0 (t v : Int) (h : W0 c e e' t v) : Tr c e e' (some (t, v, false)) (some (t, v, true))
  | an (t v : Int) (h : An c e e' t v) : Tr c e e' (some (t, v, true)) none
section
variable {c : Cfg} {e e' : EnvP} {w : Int}
theorem Tr.i {p q : amp} (h : Tr c e e' p q) : MI c e' := by
  cases h with
  | same _ h => exact h.i
  | drop _ h => exact h.i
  | al h => exact h.i
  | al1 _ h => exact h.a.i
  | w0 _ _ h => exact h.i
  | an _ _ h => exact h.i
theorem aBh (h : MI c e) : Al c e (aga e) ∧ (0 < (e.m.cells.length : Int) → Al1 c e (aga e)) := by
  have hv : CellOk c 0 (wu (e.gt 0 + 1)) := ⟨ag9 _, fun k => by rw [agp] at k; omega, fun k => by rw [agp] at k; omega, fun k => by rw [agp] at k; omega⟩
  have hl : ∀ t, Lv c (aga e) t = Lv c e t := fun t => by
    show (e.pt 6 0 (wu (e.gt 0 + 1))).gt _ = e.gt _
    rw [al8, if_neg]
    intro h'
    have h1 := agN h.d (t := t)
    rw [h'.1, agp] at h1
    omega
  have hn : (aga e).gt 0 = if (0 : Int) = 0 ∧ 0 ≤ (0 : Int) ∧ 0 < (e.m.cells.length : Int) then wu (e.gt 0 + 1) else e.gt 0 := al8
  have ha : Al c e (aga e) := ⟨h.pt hv, hl, by rw [hn]; split; exact .inl rfl; exact .inr rfl, [], by show e.evs = _; simp, fun x hx => by cases hx⟩
  exact ⟨ha, fun hp => ⟨ha, by rw [hn, if_pos ⟨rfl, Int.le_refl 0, hp⟩]⟩⟩
theorem Al.em {k w o l t : Int} (h : Al c e e') (ht : 0 ≤ t ∧ t < c.tasks) (hk : k ≠ 1 ∧ k ≠ 3 ∧ k ≠ 11 ∧ k ≠ 12) : Al c e (e'.em k w t o l) := by
  obtain ⟨m, hm, hp⟩ := h.ev
  refine ⟨⟨h.i.d, h.i.l, h.i.cc, h.i.ok⟩, h.lv, h.nx, m ++ [⟨k, w, t, o, l⟩], ?_, fun x hx => ?_⟩
  · show e'.evs ++ [_] = _
    rw [hm, List.append_assoc]
  · rcases List.mem_append.1 hx with hx | hx
    · exact hp x hx
    · rw [List.mem_singleton.1 hx]
      exact ⟨ht, hk⟩
theorem Al.pr {t : Int} {r : RecP} (h : Al c e e') : Al c e (e'.pr t r) := ⟨⟨h.i.d, h.i.l, h.i.cc, h.i.ok⟩, h.lv, h.nx, h.ev⟩
theorem Al1.pr {t : Int} {r : RecP} (h : Al1 c e e') : Al1 c e (e'.pr t r) := ⟨h.a.pr, h.n⟩
theorem aEi (h : MI c e) {t v : Int} (ht : TOk c t) (hv : 0 ≤ v ∧ v < c.levels) (hr : aa7 (aaI c) t < (e.m.cells.length : Int)) : W0 c e (e.pt 2 (aa7 (aaI c) t) v) t v := by
  have e1 : 0 ≤ aa7 (aaI c) t := by
    have := agN h.d (t := t)
    have e2 := aeb h.d (t := t) (f := 1) (by omega)
    have e3 := af3 h.d
    have e4 := h.d.h
    show 0 ≤ aev (aaI c) t 1
    have ht : 0 ≤ t ∧ t < c.tasks := ht
    rw [e2, if_pos ht]
    omega
  refine ⟨h.pt (avK h.d hv), ?_, fun u hu => ?_, ?_, rfl⟩
  · show (e.pt _ _ _).gt _ = v
    rw [al8, if_pos ⟨rfl, e1, hr⟩]
  · show (e.pt _ _ _).gt _ = e.gt _
    rw [al8, if_neg (fun h' => hu (atd h.d ht h'.1))]
  · rw [al8, if_neg]
    intro h'
    have h1 := agN h.d (t := t)
    rw [← h'.1, agp] at h1
    omega
theorem Qt.an {t v k w o : Int} (h : Qt c e e') (hk : k = 1 ∨ k = 3) : An c e (e'.em k w t o v) t v := by
  obtain ⟨m, hm, hp⟩ := h.ev
  exact ⟨⟨h.i.d, h.i.l, h.i.cc, h.i.ok⟩, h.lv, h.nx, m, k, w, o, hk, hp, by show e'.evs ++ [_] = _; rw [hm]⟩
def aFU (c : Cfg) (r : RunS) : Prop := match r.c with
  | .s2 _ => TOk c r.id ∧ (0 ≤ r.level ∧ r.level < c.levels)
  | .s3 s => TOk c r.id ∧ ajQ s
  | .s5 => TOk c r.id
  | .j5 s => aqK c r.level s
  | .f4 s => TOk c r.waiter ∧ auR s
  | .f6 => TOk c r.waiter
  | _ => True
def aCI (r : RunS) : amp := match r.c with
  | .s2 .l1 => some (r.id, r.level, false)
  | .s2 _ => some (r.id, r.level, true)
  | _ => none
def aBk (c : Cfg) (e : EnvP) (p : amp) (o : Rs RunS × EnvP) : Prop := Tr c e o.2 p (match o.1 with
  | .go r => aCI r
  | .fin _ _ => none) ∧ o.1.Q (aFU c) (fun _ _ => True)
theorem aBk.ite {p : amp} {P : Prop} [Decidable P] {a b : Rs RunS × EnvP} (h1 : P → aBk c e p a) (h2 : ¬ P → aBk c e p b) : aBk c e p (if P then a else b) := by
  split
  · exact h1 ‹_›
  · exact h2 ‹_›
theorem apo {r : RunS} (h : Rz c e e') : aBk c e none (aiH r e') := by
  unfold aiH aBk
  by_cases h1 : r.stack.length = 1
  · rw [if_pos h1]; exact ⟨.same _ h, trivial⟩
  · rw [if_neg h1]; exact ⟨.same _ h, trivial⟩
theorem aEL (h : MI c e) {x : RecP} {i : Int} (hi : ¬ (i < 0 ∨ ((e.prog x).length : Int) ≤ i)) (ho : (ab9 (e.prog x) i).op = 1) : 0 ≤ (ab9 (e.prog x) i).b ∧ (ab9 (e.prog x) i).b < c.levels := by
  have hm : ab9 (e.prog x) i ∈ e.prog x := awN (α := Ins) (d := (dfR 3 : TR 3)) (by omega)
  have hp : e.prog x ∈ c.progs ∨ e.prog x = [] := by
    unfold EnvP.prog
    rw [h.cc]
    split
    · exact .inr rfl
    · exact .inl (awN (by omega))
  rcases hp with hp | hp
  · rcases h.d.ps _ hp _ hm with k | k | k
    · omega
    · exact k.2.2.2
    · omega
  · rw [hp] at hm; cases hm
theorem aEz {t : Int} {r : RunS} (h : MI c e) (hl : (e.m.cells.length : Int) = abA c) (ht : TOk c t) (hc : r.c = .next) : aBk c e none (awv w e r t (e.rc t) (e.prog (e.rc t))) := by
  have hp : aCI r = none := by unfold aCI; rw [hc]
  have hg : aFU c r := by unfold aFU; rw [hc]; trivial
  have hs : ∀ {e' : EnvP}, Rz c e e' → aBk c e none (.go r, e') := fun h => ⟨by show Tr c e _ none (aCI r); rw [hp]; exact .same _ h, hg⟩
  have h0 : 0 < (e.m.cells.length : Int) := by
    have := af3 h.d
    have h4 := h.d.h
    have h5 := h.d.t
    rw [hl]; unfold abA; omega
  unfold awv
  rw [h.l]
  refine .ite (fun _ => hs (.inl (Qt.fr h (arH h.d) (by omega)).pr)) fun _ => ?_
  refine .ite (fun _ => ⟨.same _ (.inl (.fr h (agn h.d) (by omega))), trivial⟩) fun hi => ?_
  refine .ite (fun _ => hs (.inl (Qt.refl h).pr)) fun _ => ?_
  refine .ite (fun ho => ?_) fun _ => ?_
  · refine .ite (fun hn => ?_) fun hn => ?_
    · have hn : TOk c (wi (e.gt 0)) := by unfold IsT at hn; rw [h.cc] at hn; exact hn
      have hb := aEL h hi ho
      exact ⟨.al1 _ (((aBh h).2 h0).pr.pr) hn hb, hn, hb⟩
    · exact ⟨by show Tr c e _ none (aCI r); rw [hp]; exact .al ((aBh h).1.pr.em ht (by omega)), hg⟩
  · refine .ite (fun _ => hs (.inl (Qt.refl h).pr)) fun _ => ?_
    exact ⟨.same _ (.inl (Qt.fr h (arH h.d) (ag9 _)).pr), trivial⟩
theorem aGl {r : RunS} (h : MI c e) (hl : (e.m.cells.length : Int) = abA c) (hr : aFU c r) : aBk c e (aCI r) (awT w e r) := by
  unfold awT
  refine .ite (fun _ => ⟨.drop _ (.inl (.refl h)), trivial⟩) fun ht => ?_
  replace ht : IsT e (aaJ r.stack) := Classical.not_not.1 ht
  unfold IsT at ht
  rw [h.cc] at ht
  revert ht
  generalize aaJ r.stack = t
  intro ht
  obtain ⟨stack, id, child, level, waiter, k⟩ := r
  cases k with
  | next => exact aEz h hl ht rfl
  | s2 s =>
    obtain ⟨h1, h2⟩ := hr
    have hl2 := h.d.l
    simp only [ah3, agd]
    have hi : ¬ ¬ IsT e id := by unfold IsT; rw [h.cc]; exact fun h => h h1
    rw [if_neg hi, h.l]
    cases s with
    | l1 =>
      have h2 : 0 ≤ level ∧ level < c.levels := h2
      have e1 : wu level = level := aiz (by omega)
      simp only [e1]
      refine ⟨.w0 _ _ (aEi h h1 h2 ?_), h1, h2⟩
      have e2 := aeb h.d (t := id) (f := 1) (by omega)
      show aev (aaI c) id 1 < _
      have h1 : 0 ≤ id ∧ id < c.tasks := h1
      rw [e2, if_pos h1, hl]
      unfold abA
      omega
    | l2 => exact ⟨.same _ (.inl (.fr h (aok h.d) (ag9 _))), h1, h2⟩
    | l3 => exact ⟨.an _ _ ((Qt.fr h (agn h.d) (by omega)).an (.inr rfl)), h1, trivial⟩
  | s3 s =>
    have := apj (w := w) (v := level) h hr.1 s hr.2
    simp only [ah3]
    revert this
    rcases acM w level id e s with ⟨o, e'⟩
    intro this
    cases o with
    | go s => exact ⟨.same _ (.inl this.1), hr.1, this.2⟩
    | fin c0 v0 =>
      simp only
      split
      · exact ⟨.same _ (.inl this.1), hr.1⟩
      · exact ⟨.same _ (.inl this.1), trivial⟩
  | s4 s =>
    have := asq (w := w) (v := level) h s
    simp only [ah3]
    revert this
    rcases afy w level e s with ⟨o, e'⟩
    intro this
    cases o with
    | go s => exact ⟨.same _ (.inl this), trivial⟩
    | fin c0 v0 => exact ⟨.same _ (.inl this), trivial⟩
  | s5 =>
    simp only [ah3]
    split
    · exact ⟨.same _ (.inl (ak4 h hr)), trivial⟩
    · exact ⟨.same _ (.inl (ak4 h hr)), trivial⟩
  | j2 =>
    simp only [ah3]
    rw [h.l]
    exact ⟨.same _ (.inl (.fr h (agn h.d) (by omega))), trivial⟩
  | j3 =>
    simp only [ah3]
    rw [h.l]
    exact .ite (fun _ => ⟨.same _ (.inl ((Qt.cas h (arJ h.d) (ag9 _)).em ht (by omega))), trivial⟩) fun _ => ⟨.same _ (.inl (.cas h (arJ h.d) (ag9 _))), trivial⟩
  | j4 => exact ⟨.same _ (.inl (.lk h)), trivial⟩
  | j5 s =>
    have := aEh (w := w) (v := level) h s hr
    simp only [ah3]
    revert this
    rcases aha w level e s with ⟨o, e'⟩
    intro this
    cases o with
    | go s => exact ⟨.same _ this.1, this.2⟩
    | fin c0 v0 => exact apo (this.1.em ht (by omega))
  | j6 =>
    simp only [ah3]
    rw [h.l]
    exact ⟨.same _ (.inl (.fr h (agn h.d) (by omega))), trivial⟩
  | j7 =>
    simp only [ah3]
    rw [h.l]
    exact ⟨.same _ (.inl ((Qt.fr h (arH h.d) (by omega)).pr.em ht (by omega))), trivial⟩
  | f2 =>
    simp only [ah3]
    rw [h.l]
    exact .ite (fun _ => apo (.inl ((Qt.cas h (arJ h.d) (by omega)).em ht (by omega)))) fun _ => ⟨.same _ (.inl ((Qt.cas h (arJ h.d) (by omega)).em ht (by omega))), trivial⟩
  | f3 =>
    simp only [ah3]
    refine .ite (fun hn => ?_) fun _ => apo (.inl (.lk h))
    unfold IsT at hn
    rw [h.cc] at hn
    exact ⟨.same _ (.inl (.lk h)), hn, trivial⟩
  | f4 s =>
    have := aDE (w := w) h hr.1 s hr.2
    simp only [ah3]
    revert this
    rcases aeQ w waiter e s with ⟨o, e'⟩
    intro this
    cases o with
    | go s => exact ⟨.same _ (.inl this.1), hr.1, this.2⟩
    | fin c0 v0 =>
      simp only
      split
      · exact ⟨.same _ (.inl this.1), hr.1⟩
      · exact ⟨.same _ (.inl this.1), trivial⟩
  | f5 v s =>
    have := asq (w := w) (v := v) h s
    simp only [ah3]
    revert this
    rcases afy w v e s with ⟨o, e'⟩
    intro this
    cases o with
    | go s => exact ⟨.same _ (.inl this), trivial⟩
    | fin c0 v0 => exact apo (.inl this)
  | f6 =>
    simp only [ah3]
    exact .ite (fun _ => ⟨.same _ (.inl (ak4 h hr)), trivial⟩) fun _ => apo (.inl (ak4 h hr))
end
section
variable {c : Cfg} {e e' : EnvP} {w : Int}
def awS (c : Cfg) (k : WorkS) : Prop := match k.c with
  | .t1 t s => TOk c t ∧ auO c s
  | .t2 s => azk c s
  | .t3 s => awd c s
  | .t5 s => auP c s
  | .t6 => TOk c k.x
  | .t7 s => aFU c s
  | _ => True
def aEK (k : WorkS) : amp := match k.c with
  | .t7 s => aCI s
  | _ => none
def ase (c : Cfg) (e : EnvP) (p : amp) (o : WorkS × EnvP) : Prop := Tr c e o.2 p (aEK o.1) ∧ awS c o.1
theorem ase.ite {p : amp} {P : Prop} [Decidable P] {a b : WorkS × EnvP} (h1 : P → ase c e p a) (h2 : ¬ P → ase c e p b) : ase c e p (if P then a else b) := by
  split
  · exact h1 ‹_›
  · exact h2 ‹_›
theorem ase.ite1 {p : amp} {P : Prop} [Decidable P] {a b : WorkS} {e' : EnvP} (h1 : P → ase c e p (a, e')) (h2 : ¬ P → ase c e p (b, e')) : ase c e p (if P then a else b, e') := by
  split
  · exact h1 ‹_›
  · exact h2 ‹_›
theorem aC4 {a n : Int} (hn : 1 ≤ n ∧ n ≤ 1000) : 0 ≤ arw a n ∧ arw a n < n := by
  have h1 : Int.tmod a n < n ∧ -n < Int.tmod a n := by
    constructor
    · exact Int.tmod_lt_of_pos _ (by omega)
    · have h2 : Int.tmod (-a) n < n := Int.tmod_lt_of_pos _ (by omega)
      rw [Int.neg_tmod] at h2
      omega
  unfold arw
  rw [if_neg (by omega)]
  split
  · rw [aaH (aao (by omega))]; omega
  · omega
theorem aBT (h : MI c e) {k : WorkS} (hk : awS c k) : awS c { k with c := aca w e k } ∧ aEK { k with c := aca w e k } = aEK k := by
  obtain ⟨a, b, d, x, g⟩ := k
  have ht := h.d.t
  cases g with
  | top =>
    unfold aca
    rw [h.cc]
    simp only
    split
    · exact ⟨trivial, rfl⟩
    · exact ⟨⟨aC4 (by omega), trivial⟩, rfl⟩
  | _ => exact ⟨hk, rfl⟩
theorem aEf {k : WorkS} (h : MI c e) (hl : (e.m.cells.length : Int) = abA c) (hk : awS c k) : ase c e (aEK k) (acU w e k) := by
  have hB := aBT (w := w) h hk
  unfold acU
  revert hB
  generalize aca w e k = kc
  intro ⟨h1, h2⟩
  rw [← h2]
  cases kc with
  | top => exact ⟨by rw [h2]; exact .same _ (.inl (.refl h)), hk⟩
  | t1 t s =>
    have := aB1 (w := w) h h1.1 s h1.2
    simp only
    revert this
    rcases abZ w t e s with ⟨o, e'⟩
    intro this
    cases o with
    | go s => exact ⟨.same _ this.1, h1.1, this.2⟩
    | fin c0 v0 => exact ⟨.same _ this.1, trivial⟩
  | t2 s =>
    have := aEp (w := w) h s h1
    simp only
    revert this
    rcases anG w e s with ⟨o, e'⟩
    intro this
    cases o with
    | go s => exact ⟨.same _ (.inl this.1), this.2⟩
    | fin c0 v0 => exact .ite1 (fun hc => ⟨.same none (.inl this.1), trivial⟩) fun _ => ⟨.same none (.inl this.1), fun h => (by cases h), trivial⟩
  | t3 s =>
    have := aDF (w := w) h s h1
    simp only
    revert this
    rcases aci w e s with ⟨o, e'⟩
    intro this
    cases o with
    | go s => exact ⟨.same _ (.inl this.1), this.2⟩
    | fin c0 v0 =>
      refine .ite1 (fun hc => ⟨.same none (.inl this.1), this.2 hc⟩) fun _ => .ite1 (fun _ => ⟨.same none (.inl this.1), trivial⟩) fun _ => ?_
      unfold aAF
      split
      · exact ⟨.same none (.inl this.1), trivial⟩
      · exact ⟨.same none (.inl this.1), trivial⟩
  | t4 s =>
    have := aCK (w := w) h s
    simp only
    revert this
    rcases anp w e s with ⟨o, e'⟩
    intro this
    cases o with
    | go s => exact ⟨.same _ (.inl this), trivial⟩
    | fin c0 v0 => exact .ite1 (fun hc => ⟨.same none (.inl this), trivial⟩) fun _ => ⟨.same none (.inl this), trivial⟩
  | t5 s =>
    have := aCc (w := k.victim) (v := k.level) h s h1
    simp only
    rw [h.l]
    revert this
    rcases akw (aaB (aaI c) k.victim k.level) e s with ⟨o, e'⟩
    intro this
    cases o with
    | go s => exact ⟨.same _ (.inl this.1), this.2⟩
    | fin c0 v0 =>
      refine .ite (fun hc => ⟨.same none (.inl (this.1.em (this.2 hc) (by omega))), this.2 hc⟩) fun _ => .ite (fun _ => ⟨.same none (.inl this.1), trivial⟩) fun _ => ⟨.same none (.inl this.1), trivial⟩
  | t6 =>
    have h1 : TOk c k.x := h1
    exact .ite1 (fun _ => ⟨.same none (.inl (ak4 h h1)), trivial⟩) fun _ => ⟨.same none (.inl (ak4 h h1)), trivial⟩
  | t7 s =>
    have := aGl (w := w) h hl h1
    simp only
    revert this
    rcases awT w e s with ⟨o, e'⟩
    intro this
    cases o with
    | go s => exact this
    | fin c0 v0 => exact ⟨this.1, trivial⟩
  | t8 s =>
    have := aCi (w := w) h s
    simp only
    revert this
    rcases aiB w e s with ⟨o, e'⟩
    intro this
    cases o with
    | go s => exact ⟨.same _ (.inl this), trivial⟩
    | fin c0 v0 => exact ⟨.same _ (.inl this), trivial⟩
  | t9 s =>
    have := axy (w := k.victim) (v := k.level) (a := k.victim) (b := k.level) h s
    simp only
    rw [h.l]
    revert this
    rcases ahB (aaP (aaI c) k.victim) k.level (aaB (aaI c) k.victim k.level) e s with ⟨o, e'⟩
    intro this
    cases o with
    | go s => exact ⟨.same _ (.inl this), trivial⟩
    | fin c0 v0 => exact ⟨.same _ (.inl this), trivial⟩
def aDU (c : Cfg) (k : ClieS) : Prop := 0 ≤ k.i ∧ match k.c with
  | .n4 => TOk c k.id
  | .n5 => TOk c k.id
  | .n6 => TOk c k.id
  | .a6 s => TOk c k.id ∧ aov c s
  | _ => True
def aGo (subs : List Sub) (k : ClieS) : amp := match k.c with
  | .n4 => some (k.id, (ab8 subs k.i).level, false)
  | .n5 => some (k.id, (ab8 subs k.i).level, true)
  | .n6 => some (k.id, (ab8 subs k.i).level, true)
  | .a6 _ => some (k.id, (ab8 subs k.i).level, true)
  | _ => none
def auT (c : Cfg) (e : EnvP) (p : amp) (o : Bool × ClieS × EnvP) : Prop := Tr c e o.2.2 p (aGo c.subs o.2.1) ∧ aDU c o.2.1
theorem auT.ite {p : amp} {P : Prop} [Decidable P] {a b : Bool × ClieS × EnvP} (h1 : P → auT c e p a) (h2 : ¬ P → auT c e p b) : auT c e p (if P then a else b) := by
  split
  · exact h1 ‹_›
  · exact h2 ‹_›
theorem ayP {k : ClieS} {p : amp} (hi : 0 ≤ k.i ∧ k.i ≤ 1000) (h : Tr c e e' p none) : auT c e p (ayQ c.subs k e') := by
  have e1 : wi (k.i + 1) = k.i + 1 := aaH (aao (by omega))
  exact ⟨h, by show 0 ≤ wi (k.i + 1); omega, trivial⟩
theorem aFM {k : ClieS} {me : Int} (h : MI c e) (hl : (e.m.cells.length : Int) = abA c) (hk : aDU c k) : auT c e (aGo c.subs k) (awK c.subs me e k) := by
  have hsn := h.d.sn
  unfold awK
  refine .ite (fun _ => ⟨.same _ (.inl (.refl h)), hk⟩) fun hi => ?_
  obtain ⟨i, id, acc, g⟩ := k
  obtain ⟨h0, h1⟩ := hk
  have h0 : 0 ≤ i := h0
  have hi : i < (c.subs.length : Int) := by have hi : ¬ (c.subs.length : Int) ≤ i := hi; omega
  have hs : (0 ≤ (ab8 c.subs i).level ∧ (ab8 c.subs i).level < c.levels) := (h.d.ss _ (awN (α := Sub) (d := (dfR 4 : TR 4)) ⟨h0, hi⟩)).2.1
  have hz := TOk.zero h.d
  show auT c e _ (ad4 c.subs me e ⟨i, id, acc, g⟩ (ab8 c.subs i))
  cases g with
  | n1 =>
    simp only [ad4]
    by_cases hh : e.hit 1 0 = true
    · rw [if_pos hh]; exact ⟨.same none (.inl (atb h)), h0, trivial⟩
    · rw [if_neg hh]; exact ⟨.same none (.inl (atb h)), h0, trivial⟩
  | a1 =>
    simp only [ad4]
    by_cases hh : e.hit 1 0 = true
    · rw [if_pos hh]; exact ⟨.same none (.inl (atb h)), h0, trivial⟩
    · rw [if_neg hh]; exact ⟨.same none (.inl (atb h)), h0, trivial⟩
  | n2 =>
    simp only [ad4]
    exact .ite (fun _ => ⟨.same none (.inl ((Qt.lk h).em hz (by omega))), h0, trivial⟩) fun _ => ⟨.same none (.inl (.lk h)), h0, trivial⟩
  | n3 =>
    simp only [ad4]
    refine .ite (fun hn => ?_) fun _ => ⟨.al ((aBh h).1.em hz (by omega)), h0, trivial⟩
    have hn : TOk c (wi (e.gt 0)) := by unfold IsT at hn; rw [h.cc] at hn; exact hn
    have hp : 0 < (e.m.cells.length : Int) := by
      have := af3 h.d
      have h4 := h.d.h
      have h5 := h.d.t
      rw [hl]; unfold abA; omega
    exact ⟨.al1 _ ((aBh h).2 hp).pr hn hs, h0, hn⟩
  | n4 =>
    have h1 : TOk c id := h1
    have hl2 := h.d.l
    have e1 : wu (ab8 c.subs i).level = (ab8 c.subs i).level := aiz (by omega)
    simp only [ad4]
    rw [h.l, e1]
    refine ⟨.w0 _ _ (aEi h h1 hs ?_), h0, h1⟩
    have e2 := aeb h.d (t := id) (f := 1) (by omega)
    show aev (aaI c) id 1 < _
    have h1 : 0 ≤ id ∧ id < c.tasks := h1
    rw [e2, if_pos h1, hl]
    unfold abA
    omega
  | n5 =>
    simp only [ad4]
    rw [h.l]
    exact ⟨.same _ (.inl (.fr h (aok h.d) (ag9 _))), h0, h1⟩
  | n6 =>
    have h1 : TOk c id := h1
    have := avO (d := (ab8 c.subs i).deadline) h h1 .l1 trivial
    simp only [ad4]
    revert this
    rcases adL (ab8 c.subs i).deadline id e .l1 with ⟨o, e'⟩
    intro this
    cases o with
    | go s => exact ⟨.same _ (.inl this.1), h0, h1, this.2⟩
    | fin c0 v0 => exact .ite (fun _ => ⟨.an _ _ (this.1.an (.inl rfl)), h0, trivial⟩) fun _ => ⟨.drop _ (.inl this.1), h0, trivial⟩
  | a6 s =>
    have h2 : TOk c id := h1.1
    have := avO (d := (ab8 c.subs i).deadline) h h2 s h1.2
    simp only [ad4]
    revert this
    rcases adL (ab8 c.subs i).deadline id e s with ⟨o, e'⟩
    intro this
    cases o with
    | go s => exact ⟨.same _ (.inl this.1), h0, h2, this.2⟩
    | fin c0 v0 => exact .ite (fun _ => ⟨.an _ _ (this.1.an (.inl rfl)), h0, trivial⟩) fun _ => ⟨.drop _ (.inl this.1), h0, trivial⟩
  | n7 =>
    simp only [ad4]
    rw [h.l]
    exact ⟨.same none (.inl (.fr h (agn h.d) (by omega))), h0, trivial⟩
  | n8 =>
    simp only [ad4]
    exact .ite (fun _ => ⟨.same none (.inl (ayp h)), h0, trivial⟩) fun _ => ayP ⟨h0, by show i ≤ 1000; omega⟩ (.same none (.inl (ayp h)))
  | n9 =>
    have := asq (w := me) (v := (ab8 c.subs i).level) h (.l1 0)
    simp only [ad4]
    revert this
    rcases afy me (ab8 c.subs i).level e (.l1 0) with ⟨o, e'⟩
    intro this
    cases o with
    | go s => exact ⟨.same none (.inl this), h0, trivial⟩
    | fin c0 v0 => exact ayP ⟨h0, by show i ≤ 1000; omega⟩ (.same none (.inl this))
  | a9 t =>
    have := asq (w := me) (v := (ab8 c.subs i).level) h t
    simp only [ad4]
    revert this
    rcases afy me (ab8 c.subs i).level e t with ⟨o, e'⟩
    intro this
    cases o with
    | go s => exact ⟨.same none (.inl this), h0, trivial⟩
    | fin c0 v0 => exact ayP ⟨h0, by show i ≤ 1000; omega⟩ (.same none (.inl this))
end
theorem MI.ex {c : Cfg} {e : EnvP} (h : MI c e) {k : ClkV} : MI c { e with k := k } := ⟨h.d, h.l, h.cc, h.ok⟩
theorem aBF {c : Cfg} {a : Int} : (aqA c).gt a = 0 := by
  show (aqA c).m.gt a = 0
  unfold MemV.gt
  split
  · rename_i h
    exact List.eq_of_mem_replicate (awN (α := Int) (d := (dfR 0 : TR 0)) h)
  · rfl
theorem aFg {c : Cfg} (h : DecOk c) : MI c (aqA c) := by
  refine ⟨h, rfl, rfl, fun a => ?_⟩
  rw [aBF]
  have h1 := h.t
  have h2 := h.l
  have h3 := (arA h).2
  exact ⟨Int.le_refl 0, fun _ => h3, fun _ => by omega, fun _ => by omega⟩
def aqb (t : Int) (d : Int) (x : Ev) : Int := if x.task = t ∧ (x.kind = 1 ∨ x.kind = 3) then x.level else d
def ahU (l : List Ev) (t : Int) : Int := l.foldl (aqb t) (-1)
def aiX (l : List Ev) (t : Int) : Bool := l.any fun x => decide (x.task = t ∧ (x.kind = 11 ∨ x.kind = 12))
theorem aim {l m : List Ev} {t : Int} : ahU (l ++ m) t = m.foldl (aqb t) (ahU l t) := List.foldl_append
theorem ajY {l m : List Ev} {t : Int} : aiX (l ++ m) t = (aiX l t || aiX m t) := List.any_append
theorem akd {c : Cfg} {t d : Int} : ∀ {m : List Ev}, (∀ x ∈ m, Pl c x) → m.foldl (aqb t) d = d
  | [], _ => rfl
  | x :: m, h => by
    have hx := h x (List.mem_cons_self ..)
    have e : aqb t d x = d := by
      unfold aqb
      rw [if_neg]
      intro k
      have := hx.2
      omega
    show m.foldl (aqb t) (aqb t d x) = d
    rw [e]
    exact akd fun y hy => h y (List.mem_cons_of_mem _ hy)
theorem aq6 {c : Cfg} {t : Int} {m : List Ev} (h : ∀ x ∈ m, Pl c x) : aiX m t = false := by
  unfold aiX
  rw [List.any_eq_false]
  intro x hx
  have := (h x hx).2
  rw [decide_eq_true_iff]
  omega
structure GI (c : Cfg) (K : Nat) (e : EnvP) (pub : Nat → amp) : Prop where
  nx : e.gt 0 ≤ K
  ev : ∀ x ∈ e.evs, 0 ≤ x.task ∧ x.task < c.tasks
  dl : ∀ t, TOk c t → 0 ≤ ahU e.evs t → t < e.gt 0 ∧ ahU e.evs t ≤ Lv c e t ∧ (aiX e.evs t = false → Lv c e t = ahU e.evs t)
  pb : ∀ m t v b, pub m = some (t, v, b) → TOk c t ∧ (0 ≤ v ∧ v < c.levels) ∧ t < e.gt 0 ∧ ahU e.evs t < 0 ∧ (b = true → v ≤ Lv c e t ∧ (aiX e.evs t = false → Lv c e t = v))
  di : ∀ m m' t v b v' b', m ≠ m' → pub m = some (t, v, b) → pub m' = some (t, v', b') → False
section
variable {c : Cfg} {K : Nat} {e e' : EnvP} {pub pub' : Nat → amp}
theorem GI.sub (h : GI c K e pub) (hs : ∀ j x, pub' j = some x → pub j = some x) : GI c K e pub' :=
  ⟨h.nx, h.ev, h.dl, fun m t v b hp => h.pb m t v b (hs _ _ hp), fun m m' t v b v' b' hm h1 h2 => h.di m m' t v b v' b' hm (hs _ _ h1) (hs _ _ h2)⟩
theorem GI.up {L : Nat} (h : GI c K e pub) (hl : K ≤ L) : GI c L e pub := ⟨by have := h.nx; omega, h.ev, h.dl, h.pb, h.di⟩
theorem GI.ex (h : GI c K e pub) {k : ClkV} : GI c K { e with k := k } pub := ⟨h.nx, h.ev, h.dl, h.pb, h.di⟩
theorem GI.qt (h : GI c K e pub) (q : Qt c e e') : GI c K e' pub := by
  obtain ⟨l, hl, hp⟩ := q.ev
  have e1 : ∀ t, ahU e'.evs t = ahU e.evs t := fun t => by rw [hl, aim, akd hp]
  have e2 : ∀ t, aiX e'.evs t = aiX e.evs t := fun t => by rw [hl, ajY, aq6 hp, Bool.or_false]
  refine ⟨by rw [q.nx]; exact h.nx, fun x hx => ?_, fun t ht hd => ?_, fun m t v b hm => ?_, h.di⟩
  · rw [hl] at hx
    rcases List.mem_append.1 hx with hx | hx
    · exact h.ev x hx
    · exact (hp x hx).1
  · rw [e1] at hd ⊢
    rw [e2, q.nx, q.lv]
    exact h.dl t ht hd
  · rw [e1, e2, q.nx, q.lv]
    exact h.pb m t v b hm
theorem GI.rz (h : GI c K e pub) (q : Rz c e e') : GI c K e' pub := by
  rcases q with q | ⟨t0, v0, q⟩
  · exact h.qt q
  obtain ⟨k, w, o, l, hk, hl, hp⟩ := q.ev
  have e1 : ∀ t, ahU e'.evs t = ahU e.evs t := fun t => by
    rw [hl, aim]
    show l.foldl (aqb t) (aqb t (ahU e.evs t) _) = _
    rw [akd hp]
    unfold aqb
    rw [if_neg]
    show ¬ (t0 = t ∧ (k = 1 ∨ k = 3))
    omega
  have e2 : ∀ t, aiX e'.evs t = (aiX e.evs t || decide (t0 = t)) := fun t => by
    rw [hl, ajY]
    show (aiX e.evs t || (decide (t0 = t ∧ (k = 11 ∨ k = 12)) || aiX l t)) = _
    rw [aq6 hp, Bool.or_false]
    congr 1
    rw [decide_eq_decide]
    exact ⟨fun h => h.1, fun h => ⟨h, hk⟩⟩
  have key : ∀ t d, d ≤ Lv c e t → (aiX e.evs t = false → Lv c e t = d) → d ≤ Lv c e' t ∧ (aiX e'.evs t = false → Lv c e' t = d) := fun t d h1 h2 => by
    by_cases ht : t = t0
    · have hu := q.up
      have hn := q.now
      rw [ht] at h1 ⊢
      refine ⟨by omega, fun hf => ?_⟩
      rw [e2, decide_eq_true rfl, Bool.or_true] at hf
      cases hf
    · rw [q.ot t ht, e2, decide_eq_false (fun h => ht h.symm), Bool.or_false]
      exact ⟨h1, h2⟩
  refine ⟨by rw [q.nx]; exact h.nx, fun x hx => ?_, fun t ht hd => ?_, fun m t v b hm => ?_, h.di⟩
  · rw [hl] at hx
    rcases List.mem_append.1 hx with hx | hx
    · exact h.ev x hx
    · rcases List.mem_cons.1 hx with hx | hx
      · rw [hx]; exact q.tk
      · exact (hp x hx).1
  · rw [e1] at hd ⊢
    rw [q.nx]
    obtain ⟨h1, h2, h3⟩ := h.dl t ht hd
    exact ⟨h1, key t _ h2 h3⟩
  · rw [e1, q.nx]
    obtain ⟨h1, h2, h3, h4, h5⟩ := h.pb m t v b hm
    exact ⟨h1, h2, h3, h4, fun hb => key t _ (h5 hb).1 (h5 hb).2⟩
theorem GI.al (h : GI c K e pub) (hi : MI c e) (hK : K ≤ 1000000) (q : Al c e e') : GI c (K + 1) e' pub ∧ e.gt 0 ≤ e'.gt 0 := by
  obtain ⟨l, hl, hp⟩ := q.ev
  have e1 : ∀ t, ahU e'.evs t = ahU e.evs t := fun t => by rw [hl, aim, akd hp]
  have e2 : ∀ t, aiX e'.evs t = aiX e.evs t := fun t => by rw [hl, ajY, aq6 hp, Bool.or_false]
  have h0 := hi.p 0
  have hn := h.nx
  have e3 : e.gt 0 ≤ e'.gt 0 ∧ e'.gt 0 ≤ K + 1 := by
    rcases q.nx with k | k
    · rw [k, aiz (by omega)]; omega
    · rw [k]; omega
  refine ⟨⟨by have := e3.2; omega, fun x hx => ?_, fun t ht hd => ?_, fun m t v b hm => ?_, h.di⟩, e3.1⟩
  · rw [hl] at hx
    rcases List.mem_append.1 hx with hx | hx
    · exact h.ev x hx
    · exact (hp x hx).1
  · rw [e1] at hd ⊢
    rw [e2, q.lv]
    obtain ⟨h1, h2⟩ := h.dl t ht hd
    exact ⟨by omega, h2⟩
  · rw [e1, e2, q.lv]
    obtain ⟨h1, h2, h3, h4⟩ := h.pb m t v b hm
    exact ⟨h1, h2, by omega, h4⟩
theorem GI.step (h : GI c K e pub) (hi : MI c e) (hK : K ≤ 1000000) {m : Nat} {p p' : amp} (hp : pub m = p) (q : Tr c e e' p p') (hpub : ∀ j, pub' j = if j = m then p' else pub j) : GI c (K + 1) e' pub' := by
  have h0 := hi.p 0
  have hn := h.nx
  cases q with
  | same _ q =>
    refine ((h.rz q).up (Nat.le_succ K)).sub fun j x hx => ?_
    rw [hpub] at hx
    split at hx
    · rename_i hj; rw [hj, hp]; exact hx
    · exact hx
  | drop _ q =>
    refine ((h.rz q).up (Nat.le_succ K)).sub fun j x hx => ?_
    rw [hpub] at hx
    split at hx
    · cases hx
    · exact hx
  | al q =>
    refine (h.al hi hK q).1.sub fun j x hx => ?_
    rw [hpub] at hx
    split at hx
    · cases hx
    · exact hx
  | al1 v q ht hv =>
    have g := h.al hi hK q.a
    have e1 : wi (e.gt 0) = e.gt 0 := aaH (aao (by omega))
    rw [e1] at ht hpub
    have e2 : e'.gt 0 = e.gt 0 + 1 := by rw [q.n, aiz (by omega)]
    have hd : ahU e'.evs (e.gt 0) < 0 := by
      obtain ⟨l, hl, hp⟩ := q.a.ev
      have e1 : ahU e'.evs (e.gt 0) = ahU e.evs (e.gt 0) := by rw [hl, aim, akd hp]
      rw [e1]
      by_cases k : ahU e.evs (e.gt 0) < 0
      · exact k
      · have := (h.dl _ ht (by omega)).1; omega
    refine ⟨g.1.nx, g.1.ev, g.1.dl, fun j t u b hj => ?_, fun j j' t u b u' b' hjj hj hj' => ?_⟩
    · rw [hpub] at hj
      split at hj
      · cases hj
        exact ⟨ht, hv, by omega, hd, fun k => by cases k⟩
      · exact g.1.pb j t u b hj
    · rw [hpub] at hj hj'
      split at hj
      · cases hj
        split at hj'
        · omega
        · have := (h.pb _ _ _ _ hj').2.2.1; omega
      · split at hj'
        · cases hj'
          have := (h.pb _ _ _ _ hj).2.2.1; omega
        · exact h.di j j' t u b u' b' hjj hj hj'
  | w0 t0 v0 q =>
    have hm := h.pb m _ _ _ hp
    have key : ∀ t, t ≠ t0 → Lv c e' t = Lv c e t := q.ot
    refine ⟨by rw [q.nx]; omega, by rw [q.ev]; exact h.ev, fun t ht hd => ?_, fun j t u b hj => ?_, fun j j' t u b u' b' hjj hj hj' => ?_⟩
    · rw [q.ev] at hd ⊢
      rw [q.nx]
      have : t ≠ t0 := fun k => by rw [k] at hd; have := hm.2.2.2.1; omega
      rw [key t this]
      exact h.dl t ht hd
    · rw [q.ev, q.nx]
      rw [hpub] at hj
      split at hj
      · cases hj
        refine ⟨hm.1, hm.2.1, hm.2.2.1, hm.2.2.2.1, fun _ => ?_⟩
        rw [q.now]
        exact ⟨Int.le_refl _, fun _ => rfl⟩
      · rename_i hjm
        have : t ≠ t0 := fun k => by rw [k] at hj; exact h.di j m _ _ _ _ _ hjm hj hp
        rw [key t this]
        exact h.pb j t u b hj
    · rw [hpub] at hj hj'
      split at hj
      · rename_i h1
        cases hj
        split at hj'
        · omega
        · rename_i h2; exact h.di j' m _ _ _ _ _ h2 hj' hp
      · rename_i h1
        split at hj'
        · cases hj'; exact h.di j m _ _ _ _ _ h1 hj hp
        · exact h.di j j' t u b u' b' hjj hj hj'
  | an t0 v0 q =>
    have hm := h.pb m _ _ _ hp
    obtain ⟨l, k, w, o, hk, hpl, hl⟩ := q.ev
    have e1 : ∀ t, ahU e'.evs t = if t0 = t then v0 else ahU e.evs t := fun t => by
      rw [hl, aim, aim, akd hpl]
      show (if t0 = t ∧ (k = 1 ∨ k = 3) then v0 else _) = _
      by_cases ht : t0 = t
      · rw [if_pos ⟨ht, hk⟩, if_pos ht]
      · rw [if_neg (fun h => ht h.1), if_neg ht]
    have e2 : ∀ t, aiX e'.evs t = aiX e.evs t := fun t => by
      rw [hl, ajY, ajY, aq6 hpl, Bool.or_false]
      show (_ || (decide (t0 = t ∧ (k = 11 ∨ k = 12)) || false)) = _
      rw [decide_eq_false (by omega), Bool.or_false, Bool.or_false]
    refine ⟨by rw [q.nx]; omega, fun x hx => ?_, fun t ht hd => ?_, fun j t u b hj => ?_, fun j j' t u b u' b' hjj hj hj' => ?_⟩
    · rw [hl] at hx
      rcases List.mem_append.1 hx with hx | hx
      · rcases List.mem_append.1 hx with hx | hx
        · exact h.ev x hx
        · exact (hpl x hx).1
      · rw [List.mem_singleton.1 hx]; exact hm.1
    · rw [e1] at hd ⊢
      rw [e2, q.nx, q.lv]
      by_cases hh : t0 = t
      · rw [if_pos hh]
        rw [← hh]
        exact ⟨hm.2.2.1, hm.2.2.2.2 rfl⟩
      · rw [if_neg hh] at hd ⊢
        exact h.dl t ht hd
    · rw [hpub] at hj
      split at hj
      · cases hj
      · rename_i hjm
        have : t0 ≠ t := fun k => by rw [← k] at hj; exact h.di j m _ _ _ _ _ hjm hj hp
        rw [e1, if_neg this, e2, q.nx, q.lv]
        exact h.pb j t u b hj
    · rw [hpub] at hj hj'
      split at hj
      · cases hj
      · split at hj'
        · cases hj'
        · exact h.di j j' t u b u' b' hjj hj hj'
end
theorem aFy {c : Cfg} : GI c 0 (aqA c) fun _ => none where
  nx := by rw [aBF]; exact Int.le_refl 0
  ev x hx := by cases hx
  dl t ht hd := absurd hd (by show ¬ (0 : Int) ≤ -1; omega)
  pb m t v b hm := by cases hm
  di m m' t v b v' b' _ hm _ := by cases hm
end
end Go.Proofs.YteapeojalliebaaGreat
