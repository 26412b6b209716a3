/- The cells of an engine's memory by kinds: what each may hold; what the places of the layout are. What a step leaves alone: levels and Next; the machines that run none inside. The keys of the injector: what their low bits are. Raises; the machines that run others inside, up to Drain. Run, a worker, the client: what a step does with levels, Next and the events; who publishes a task. A worker and the client: what a step does with levels, Next and the events. Who has a task, and what its cells say: what holds between steps, and how a step keeps it. No program occurs here. -/
import Derived.Test.YtclaldommncdbaaGreatDqap
set_option linter.all false
namespace Go.Proofs.YtclaldommncdbaaGreat
section
open Go Go.RowKit
set_option maxRecDepth 100000
variable [Tb]
theorem agD {x : Int} (h : 0 ≤ x ∧ x ≤ 1000000000000) : wu x = x := by
  show IntKind.u64.wrap x = x
  simp [IntKind.wrap, IntKind.signed, IntKind.bits, IntKind.min, IntKind.max]
  omega
def ckC (c : Cfg) (a : Int) : Int :=
  if a < 0 then 9 else if a = 0 then 0 else if a < 4 then 1 else if a < 4 + c.heap then 2 else if a < (aao c).queues then 3
  else if a < (aao c).table then (if (a - (aao c).queues) % (2 + c.deque) < 2 then 4 else 5)
  else if (a - (aao c).table) % 5 = 1 then 6 else 7
structure CellOk (c : Cfg) (a x : Int) : Prop where
  p : 0 ≤ x
  s : ckC c a = 2 → anO x 65535 < c.tasks
  r : ckC c a = 5 → x < c.tasks
  l : ckC c a = 6 → x < c.levels
def Fr (c : Cfg) (a : Int) : Prop := ckC c a ≠ 0 ∧ ckC c a ≠ 2 ∧ ckC c a ≠ 5 ∧ ckC c a ≠ 6
theorem Fr.ok {c : Cfg} {a x : Int} (h : Fr c a) (hx : 0 ≤ x) : CellOk c a x := ⟨hx, fun k => absurd k h.2.1, fun k => absurd k h.2.2.1, fun k => absurd k h.2.2.2⟩
theorem apv {c : Cfg} {a k : Int} (h : ckC c a = k) (hk : k = 1 ∨ k = 3 ∨ k = 4 ∨ k = 7 ∨ k = 9) : Fr c a := by
  unfold Fr; rw [h]; omega
section
variable {c : Cfg}
theorem DecOk.rg (h : DecOk c) : (0 ≤ c.workers * c.levels ∧ c.workers * c.levels ≤ 16) ∧ (0 ≤ c.workers * c.levels * (2 + c.deque) ∧ c.workers * c.levels * (2 + c.deque) ≤ 96) := by
  have h1 := h.w
  have h2 := h.l
  have h3 := h.q
  have e1 := aAl (a := c.workers) (b := c.levels) (A := 4) (B := 4) (by omega) (by omega) (by omega) (by omega)
  have e2 := aAl (a := c.workers * c.levels) (b := 2 + c.deque) (A := 16) (B := 6) e1.1 (by omega) (by omega) (by omega)
  omega
theorem afH : ckC c (-1) = 9 := by unfold ckC; rw [if_pos (by omega)]
theorem agl (h : DecOk c) : 4 + c.heap ≤ (aao c).queues ∧ (aao c).queues ≤ (aao c).table ∧ (aao c).table ≤ 200 ∧ (aao c).table = (aao c).queues + c.workers * c.levels * (2 + c.deque) := by
  have h1 := h.w
  have h2 := h.l
  have h3 := h.q
  have h4 := h.h
  have h5 := h.k
  have e := h.rg
  refine ⟨?_, ?_, ?_, ?_⟩ <;> show _ <;> unfold aao <;> simp only <;> omega
theorem avD (h : DecOk c) {a : Int} (ha : 1 ≤ a ∧ a ≤ 3) : ckC c a = 1 := by
  unfold ckC; rw [if_neg (by omega), if_neg (by omega), if_pos (by omega)]
theorem ayz (h : DecOk c) {t f : Int} (ht : 0 ≤ t) (hf : 0 ≤ f ∧ f < 5) : ckC c ((aao c).table + f + t * 5) = if f = 1 then 6 else 7 := by
  have e := agl h
  have h4 := h.h
  unfold ckC
  rw [if_neg (by omega), if_neg (by omega), if_neg (by omega), if_neg (by omega), if_neg (by omega), if_neg (by omega)]
  by_cases hf1 : f = 1
  · rw [if_pos (by omega), if_pos hf1]
  · rw [if_neg (by omega), if_neg hf1]
theorem adG (h : DecOk c) {t f : Int} (hf : 0 ≤ f ∧ f < 5) : acU (aao c) t f = if 0 ≤ t ∧ t < c.tasks then (aao c).table + f + t * 5 else -1 := by
  have e := agl h
  have h4 := h.t
  have h5 := h.h
  have h6 := h.rg
  unfold acU atP
  have e1 : (aao c).tasks = c.tasks := rfl
  rw [e1]
  by_cases h1 : t < 0
  · rw [if_pos h1, if_neg (by omega)]
  rw [if_neg h1]
  by_cases h2 : c.tasks ≤ t
  · rw [if_pos h2, if_neg (by omega)]
  rw [if_neg h2, if_pos (by omega), aaQ (x := (aao c).table + f) (aau (by omega)), aaQ (x := t * 5) (aau (by omega)), aaQ (aau (by omega))]
theorem ara (h : DecOk c) {t f : Int} (hf : 0 ≤ f ∧ f < 5) : ckC c (acU (aao c) t f) = if 0 ≤ t ∧ t < c.tasks then (if f = 1 then 6 else 7) else 9 := by
  rw [adG h hf]
  split
  · rename_i h1; rw [ayz h h1.1 hf]
  · rw [afH]
theorem aqX (h : DecOk c) {t f : Int} (hf : 0 ≤ f ∧ f < 5) (hf1 : f ≠ 1) : Fr c (acU (aao c) t f) := by
  refine apv rfl ?_
  rw [ara h hf, if_neg hf1]
  split <;> omega
theorem af5 (h : DecOk c) {t : Int} : Fr c (aaV (aao c) t) := aqX h (by omega) (by omega)
theorem aqY (h : DecOk c) {t : Int} : Fr c (acN (aao c) t) := aqX h (by omega) (by omega)
theorem aqW (h : DecOk c) {t : Int} : Fr c (aeC (aao c) t) := aqX h (by omega) (by omega)
theorem anG (h : DecOk c) {t : Int} : Fr c (akB (aao c) t) := aqX h (by omega) (by omega)
theorem aoW (h : DecOk c) {a : Int} (ha : 1 ≤ a ∧ a ≤ 3) : Fr c a := apv (avD h ha) (by omega)
theorem aF7 {i n a w : Int} (hn : n ≤ 1000) (ha : 0 ≤ a ∧ a ≤ 1000) (hw : w = 1) : atP i n a w = if 0 ≤ i ∧ i < n then a + i else -1 := by
  subst hw
  unfold atP
  by_cases h1 : i < 0
  · rw [if_pos h1, if_neg (by omega)]
  rw [if_neg h1]
  by_cases h2 : n ≤ i
  · rw [if_pos h2, if_neg (by omega)]
  rw [if_neg h2, if_pos (by omega), Int.mul_one, aaQ (x := i) (aau (by omega)), aaQ (aau (by omega))]
theorem ao5 (h : DecOk c) {a : Int} (ha : 4 + c.heap ≤ a ∧ a < (aao c).queues) : ckC c a = 3 := by
  have h4 := h.h
  unfold ckC
  rw [if_neg (by omega), if_neg (by omega), if_neg (by omega), if_neg (by omega), if_pos (by omega)]
theorem aok : (aao c).queues = 4 + c.heap + c.classes + c.workers + c.workers := rfl
theorem avK (h : DecOk c) {w : Int} : ckC c (afO (aao c) w) = 3 ∨ ckC c (afO (aao c) w) = 9 := by
  have h1 := h.w
  have h4 := h.h
  have h5 := h.k
  unfold afO
  show ckC c (atP w c.workers (4 + c.heap + c.classes) 1) = 3 ∨ ckC c (atP w c.workers (4 + c.heap + c.classes) 1) = 9
  rw [aF7 (show c.workers ≤ 1000 by omega) (show 0 ≤ 4 + c.heap + c.classes ∧ 4 + c.heap + c.classes ≤ 1000 by omega) rfl]
  split
  · rename_i h'
    have h' : 0 ≤ w ∧ w < c.workers := h'
    refine .inl (ao5 h ?_)
    show 4 + c.heap ≤ 4 + c.heap + c.classes + w ∧ 4 + c.heap + c.classes + w < _
    rw [aok]; omega
  · exact .inr afH
theorem aAy (h : DecOk c) {w : Int} : Fr c (afO (aao c) w) := apv rfl (by have := avK h (w := w); omega)
theorem asV (h : DecOk c) {w : Int} : ckC c (aaI (aao c) w) = 3 ∨ ckC c (aaI (aao c) w) = 9 := by
  have h1 := h.w
  have h4 := h.h
  have h5 := h.k
  unfold aaI
  show ckC c (atP w c.workers (4 + c.heap + c.classes + c.workers) 1) = 3 ∨ ckC c (atP w c.workers (4 + c.heap + c.classes + c.workers) 1) = 9
  rw [aF7 (show c.workers ≤ 1000 by omega) (show 0 ≤ 4 + c.heap + c.classes + c.workers ∧ 4 + c.heap + c.classes + c.workers ≤ 1000 by omega) rfl]
  split
  · rename_i h'
    have h' : 0 ≤ w ∧ w < c.workers := h'
    refine .inl (ao5 h ?_)
    show 4 + c.heap ≤ 4 + c.heap + c.classes + c.workers + w ∧ 4 + c.heap + c.classes + c.workers + w < _
    rw [aok]; omega
  · exact .inr afH
theorem aoX (h : DecOk c) {w : Int} : Fr c (aaI (aao c) w) := apv rfl (by have := asV h (w := w); omega)
theorem apc (h : DecOk c) {w : Int} : ckC c (ag3 (aao c) w) = 3 ∨ ckC c (ag3 (aao c) w) = 9 := by
  have h1 := h.w
  have h4 := h.h
  have h5 := h.k
  unfold ag3
  show ckC c (atP w c.classes (4 + c.heap) 1) = 3 ∨ ckC c (atP w c.classes (4 + c.heap) 1) = 9
  rw [aF7 (show c.classes ≤ 1000 by omega) (show 0 ≤ 4 + c.heap ∧ 4 + c.heap ≤ 1000 by omega) rfl]
  split
  · rename_i h'
    have h' : 0 ≤ w ∧ w < c.classes := h'
    refine .inl (ao5 h ?_)
    show 4 + c.heap ≤ 4 + c.heap + w ∧ 4 + c.heap + w < _
    rw [aok]; omega
  · exact .inr afH
theorem anJ (h : DecOk c) {i : Int} : ckC c (aeF (aao c) i) = 2 ∨ ckC c (aeF (aao c) i) = 9 := by
  have h4 := h.h
  unfold aeF
  show ckC c (atP i c.heap 4 1) = 2 ∨ ckC c (atP i c.heap 4 1) = 9
  rw [aF7 (show c.heap ≤ 1000 by omega) (show (0 : Int) ≤ 4 ∧ (4 : Int) ≤ 1000 by omega) rfl]
  split
  · rename_i h'
    have h' : 0 ≤ i ∧ i < c.heap := h'
    refine .inl ?_
    unfold ckC
    rw [if_neg (by omega), if_neg (by omega), if_neg (by omega), if_pos (by omega)]
  · exact .inr afH
theorem aCQ (h : DecOk c) {i x : Int} (h1 : 0 ≤ x) (h2 : anO x 65535 < c.tasks) : CellOk c (aeF (aao c) i) x := by
  have e := anJ h (i := i)
  exact ⟨h1, fun _ => h2, fun k => by omega, fun k => by omega⟩
def bq (c : Cfg) (k : Int) : QV := ⟨(aao c).queues + k * (2 + c.deque), (aao c).queues + k * (2 + c.deque) + 1, (aao c).queues + k * (2 + c.deque) + 2, c.deque⟩
theorem aG4 {i n a w : Int} (hn : n ≤ 10) (ha : 0 ≤ a ∧ a ≤ 1000) (hw : 0 ≤ w ∧ w ≤ 100) : atP i n a w = if 0 ≤ i ∧ i < n then a + i * w else -1 := by
  unfold atP
  by_cases h1 : i < 0
  · rw [if_pos h1, if_neg (by omega)]
  rw [if_neg h1]
  by_cases h2 : n ≤ i
  · rw [if_pos h2, if_neg (by omega)]
  have h3 := aAl (a := i) (b := w) (A := 10) (B := 100) (by omega) (by omega) (by omega) (by omega)
  rw [if_neg h2, if_pos (by omega), aaQ (x := i * w) (aau (by omega)), aaQ (aau (by omega))]
theorem axg (h : DecOk c) (w v : Int) : (¬ ((0 ≤ w ∧ w < c.workers) ∧ 0 ≤ v ∧ v < c.levels) ∧ aaw (aao c) w v = ⟨-1, -1, -1, 0⟩) ∨ (((0 ≤ w ∧ w < c.workers) ∧ 0 ≤ v ∧ v < c.levels) ∧ (0 ≤ w * c.levels + v ∧ w * c.levels + v < c.workers * c.levels) ∧ aaw (aao c) w v = bq c (w * c.levels + v)) := by
  have h1 := h.w
  have h2 := h.l
  have h3 := h.q
  have e := agl h
  have h4 := h.h
  have e1 := aAl (a := c.levels) (b := 2 + c.deque) (A := 4) (B := 6) (by omega) (by omega) (by omega) (by omega)
  have e2 : wi (c.levels * wi (2 + c.deque)) = c.levels * (2 + c.deque) := by
    rw [aaQ (x := 2 + c.deque) (aau (by omega)), aaQ (aau (by omega))]
  have e3 : wi (2 + c.deque) = 2 + c.deque := aaQ (aau (by omega))
  have ea : atP w c.workers (aao c).queues (c.levels * (2 + c.deque)) = if 0 ≤ w ∧ w < c.workers then (aao c).queues + w * (c.levels * (2 + c.deque)) else -1 := aG4 (by omega) (by omega) (by omega)
  unfold aaw
  show (¬ _ ∧ (if atP w c.workers (aao c).queues (wi (c.levels * wi (2 + c.deque))) < 0 then _ else if atP v c.levels (atP w c.workers (aao c).queues (wi (c.levels * wi (2 + c.deque)))) (wi (2 + c.deque)) < 0 then _
    else QV.mk (atP v c.levels (atP w c.workers (aao c).queues (wi (c.levels * wi (2 + c.deque)))) (wi (2 + c.deque))) (wi (atP v c.levels (atP w c.workers (aao c).queues (wi (c.levels * wi (2 + c.deque)))) (wi (2 + c.deque)) + 1)) (wi (atP v c.levels (atP w c.workers (aao c).queues (wi (c.levels * wi (2 + c.deque)))) (wi (2 + c.deque)) + 2)) c.deque) = _) ∨ (_ ∧ _ ∧ (if atP w c.workers (aao c).queues (wi (c.levels * wi (2 + c.deque))) < 0 then _ else if atP v c.levels (atP w c.workers (aao c).queues (wi (c.levels * wi (2 + c.deque)))) (wi (2 + c.deque)) < 0 then _
    else QV.mk (atP v c.levels (atP w c.workers (aao c).queues (wi (c.levels * wi (2 + c.deque)))) (wi (2 + c.deque))) (wi (atP v c.levels (atP w c.workers (aao c).queues (wi (c.levels * wi (2 + c.deque)))) (wi (2 + c.deque)) + 1)) (wi (atP v c.levels (atP w c.workers (aao c).queues (wi (c.levels * wi (2 + c.deque)))) (wi (2 + c.deque)) + 2)) c.deque) = _)
  rw [e2, e3, ea]
  by_cases hw : 0 ≤ w ∧ w < c.workers
  · rw [if_pos hw]
    have e4 := aAl (a := w) (b := c.levels * (2 + c.deque)) (A := 4) (B := 24) (by omega) (by omega) (by omega) (by omega)
    have eb : atP v c.levels ((aao c).queues + w * (c.levels * (2 + c.deque))) (2 + c.deque) = if 0 ≤ v ∧ v < c.levels then (aao c).queues + w * (c.levels * (2 + c.deque)) + v * (2 + c.deque) else -1 := aG4 (by omega) (by omega) (by omega)
    rw [if_neg (by omega), eb]
    by_cases hv : 0 ≤ v ∧ v < c.levels
    · rw [if_pos hv]
      have e5 := aAl (a := v) (b := 2 + c.deque) (A := 4) (B := 6) (by omega) (by omega) (by omega) (by omega)
      have e6 := aAl (a := w) (b := c.levels) (A := 4) (B := 4) (by omega) (by omega) (by omega) (by omega)
      have e7 : (w * c.levels + v) * (2 + c.deque) = w * (c.levels * (2 + c.deque)) + v * (2 + c.deque) := by rw [Int.add_mul, Int.mul_assoc]
      rw [if_neg (by omega)]
      refine .inr ⟨⟨hw, hv⟩, ⟨by omega, ?_⟩, ?_⟩
      · have : c.levels = 1 ∨ c.levels = 2 ∨ c.levels = 3 ∨ c.levels = 4 := by omega
        rcases this with e | e | e | e <;> rw [e] at hv ⊢ <;> omega
      · unfold bq
        rw [e7, aaQ (aau (by omega)), aaQ (aau (by omega)), ← Int.add_assoc]
    · rw [if_neg hv, if_pos (by omega)]; exact .inl ⟨fun h => hv h.2, rfl⟩
  · rw [if_neg hw, if_pos (by omega)]; exact .inl ⟨fun h => hw h.1, rfl⟩
theorem agq (h : DecOk c) (w v : Int) : aaw (aao c) w v = ⟨-1, -1, -1, 0⟩ ∨ ∃ k, 0 ≤ k ∧ k < c.workers * c.levels ∧ aaw (aao c) w v = bq c k := by
  rcases axg h w v with ⟨_, e⟩ | ⟨_, ⟨e1, e2⟩, e⟩
  · exact .inl e
  · exact .inr ⟨_, e1, e2, e⟩
theorem asO (h : DecOk c) {k j : Int} (hk : 0 ≤ k ∧ k < c.workers * c.levels) (hj : 0 ≤ j ∧ j < 2 + c.deque) : ckC c ((aao c).queues + k * (2 + c.deque) + j) = if j < 2 then 4 else 5 := by
  have e := agl h
  have h4 := h.h
  have h3 := h.q
  have e1 : (k + 1) * (2 + c.deque) ≤ c.workers * c.levels * (2 + c.deque) := Int.mul_le_mul_of_nonneg_right (by omega) (by omega)
  have e2 : (k + 1) * (2 + c.deque) = k * (2 + c.deque) + (2 + c.deque) := by rw [Int.add_mul, Int.one_mul]
  have e3 : 0 ≤ k * (2 + c.deque) := Int.mul_nonneg hk.1 (by omega)
  have e4 : ((aao c).queues + k * (2 + c.deque) + j - (aao c).queues) % (2 + c.deque) = j := by
    have : (aao c).queues + k * (2 + c.deque) + j - (aao c).queues = j + k * (2 + c.deque) := by omega
    rw [this, Int.add_mul_emod_self_right, Int.emod_eq_of_lt hj.1 hj.2]
  unfold ckC
  rw [if_neg (by omega), if_neg (by omega), if_neg (by omega), if_neg (by omega), if_neg (by omega), if_pos (by omega), e4]
theorem aBu (h : DecOk c) (w v : Int) : Fr c (aaw (aao c) w v).top := by
  have h3 := h.q
  rcases agq h w v with e | ⟨k, h1, h2, e⟩ <;> rw [e]
  · exact apv afH (by omega)
  · have := asO h ⟨h1, h2⟩ (j := 0) (by omega)
    rw [Int.add_zero, if_pos (by omega)] at this
    exact apv this (by omega)
theorem alr (h : DecOk c) (w v : Int) : Fr c (aaw (aao c) w v).bottom := by
  have h3 := h.q
  rcases agq h w v with e | ⟨k, h1, h2, e⟩ <;> rw [e]
  · exact apv afH (by omega)
  · have := asO h ⟨h1, h2⟩ (j := 1) (by omega)
    rw [if_pos (by omega)] at this
    exact apv this (by omega)
theorem anK (h : DecOk c) (w v : Int) {b : Int} (hb : 0 ≤ b) : ckC c (agC (aaw (aao c) w v) b) = 5 ∨ ckC c (agC (aaw (aao c) w v) b) = 9 := by
  have h3 := h.q
  rcases agq h w v with e | ⟨k, h1, h2, e⟩ <;> rw [e]
  · refine .inr ?_
    unfold agC
    rw [if_pos (by show (0 : Int) < 1; omega), afH]
  · refine .inl ?_
    have e0 := agl h
    have h4 := h.h
    have h5 := h.rg
    have e1 := ap8 (a := b) (b := c.deque) (by omega) hb
    have e2 : k * (2 + c.deque) ≤ c.workers * c.levels * (2 + c.deque) := Int.mul_le_mul_of_nonneg_right (by omega) (by omega)
    have e3 : 0 ≤ k * (2 + c.deque) := Int.mul_nonneg h1 (by omega)
    unfold agC bq
    simp only
    rw [if_neg (by omega), agD (x := c.deque) (by omega), aaQ (x := Int.tmod b c.deque) (aau (by omega)), aaQ (aau (by omega))]
    have := asO h ⟨h1, h2⟩ (j := 2 + Int.tmod b c.deque) (by omega)
    rw [if_neg (by omega), ← Int.add_assoc] at this
    exact this
theorem aCR (h : DecOk c) (w v : Int) {b x : Int} (hb : 0 ≤ b) (hx : 0 ≤ x ∧ x < c.tasks) : CellOk c (agC (aaw (aao c) w v) b) x := by
  have e := anK h w v hb
  exact ⟨hx.1, fun k => by omega, fun k => hx.2, fun k => by omega⟩
end
theorem awx (x : Int) : IntKind.u64.wrap x = x % 18446744073709551616 := by
  simp [IntKind.wrap, IntKind.signed, IntKind.bits]
theorem agO (a : Int) : 0 ≤ wu a := (aD5 a).1
theorem ava (a b : Int) : 0 ≤ orU a b := agO _
theorem amy (a b : Int) : 0 ≤ anO a b := agO _
theorem ahl {e : EnvP} {k a v b : Int} : (e.pt k a v).gt b = if b = a ∧ 0 ≤ a ∧ a < (e.m.cells.length : Int) then v else e.gt b := by
  show (e.m.pt k a v).gt b = if _ then v else e.m.gt b
  unfold MemV.pt
  by_cases ha : 0 ≤ a ∧ a < (e.m.cells.length : Int)
  · rw [if_pos ha]
    unfold MemV.gt
    simp only [List.length_set]
    by_cases hb : 0 ≤ b ∧ b < (e.m.cells.length : Int)
    · rw [if_pos hb, if_pos hb]
      by_cases hab : b = a
      · rw [if_pos ⟨hab, ha⟩, hab, ai4 ha]
      · rw [if_neg (fun h => hab h.1)]
        show atL _ (e.m.cells.set a.toNat v) b = atL _ e.m.cells b
        unfold atL
        rw [List.getElem?_set_ne (by omega)]
    · rw [if_neg hb, if_neg hb, if_neg (fun (h : b = a ∧ _) => hb (by rw [h.1]; exact h.2))]
  · rw [if_neg ha, if_neg (fun h => ha h.2)]
theorem atZ {e : EnvP} {a b : Int} : (e.lk a).gt b = e.gt b := by
  have : (e.pt 1 a (e.gt a)).gt b = e.gt b := by
    rw [ahl]
    split
    · rename_i h; rw [h.1]
    · rfl
  exact this
structure MI (c : Cfg) (e : EnvP) : Prop where
  d : DecOk c
  l : e.l = aao c
  cc : e.c = c
  ok : ∀ a, CellOk c a (e.gt a)
def Pl (c : Cfg) (x : Ev) : Prop := (0 ≤ x.task ∧ x.task < c.tasks) ∧ x.kind ≠ 1 ∧ x.kind ≠ 3 ∧ x.kind ≠ 11 ∧ x.kind ≠ 12
abbrev Lv (c : Cfg) (e : EnvP) (t : Int) : Int := e.gt (abM (aao c) t)
structure Qt (c : Cfg) (e e' : EnvP) : Prop where
  i : MI c e'
  lv : ∀ t, Lv c e' t = Lv c e t
  nx : e'.gt 0 = e.gt 0
  ev : ∃ l, e'.evs = e.evs ++ l ∧ ∀ x ∈ l, Pl c x
section
variable {c : Cfg} {e e' : EnvP} {a v k o t : Int}
theorem MI.p (h : MI c e) (a : Int) : 0 ≤ e.gt a := (h.ok a).p
theorem MI.lk (h : MI c e) : MI c (e.lk a) := ⟨h.d, h.l, h.cc, fun b => by rw [atZ]; exact h.ok b⟩
theorem MI.pt (h : MI c e) (hv : CellOk c a v) : MI c (e.pt k a v) := ⟨h.d, h.l, h.cc, fun b => by
  rw [ahl]
  split
  · rename_i q; rw [q.1]; exact hv
  · exact h.ok b⟩
theorem Qt.refl (h : MI c e) : Qt c e e := ⟨h, fun _ => rfl, rfl, [], by simp, fun x hx => by cases hx⟩
theorem Qt.lk (h : MI c e) : Qt c e (e.lk a) := ⟨h.lk, fun _ => atZ, atZ, [], by show e.evs = _; simp, fun x hx => by cases hx⟩
theorem afw (h : DecOk c) : ckC c (abM (aao c) t) = 6 ∨ (ckC c (abM (aao c) t) = 9 ∧ abM (aao c) t = -1) := by
  have e1 := ara h (t := t) (f := 1) (by omega)
  have e2 := adG h (t := t) (f := 1) (by omega)
  show ckC c (acU (aao c) t 1) = 6 ∨ (ckC c (acU (aao c) t 1) = 9 ∧ acU (aao c) t 1 = -1)
  by_cases ht : 0 ≤ t ∧ t < c.tasks
  · rw [e1, if_pos ht, if_pos rfl]; exact .inl rfl
  · rw [e1, e2, if_neg ht, if_neg ht]; exact .inr ⟨rfl, rfl⟩
theorem aeM : ckC c 0 = 0 := by unfold ckC; rw [if_neg (by omega), if_pos rfl]
theorem Qt.wr (h : MI c e) (h0 : ckC c a ≠ 0) (h6 : ckC c a ≠ 6) (hv : CellOk c a v) : Qt c e (e.pt k a v) := by
  refine ⟨h.pt hv, fun t => ?_, ?_, [], by show e.evs = _; simp, fun x hx => by cases hx⟩
  · show (e.pt k a v).gt _ = e.gt _
    rw [ahl]
    split
    · rename_i q
      rcases afw h.d (t := t) with h1 | ⟨_, h1⟩
      · rw [q.1] at h1; exact absurd h1 h6
      · omega
    · rfl
  · rw [ahl]
    split
    · rename_i q
      rw [← q.1] at h0
      exact absurd aeM h0
    · rfl
theorem Qt.fr (h : MI c e) (ha : Fr c a) (hv : 0 ≤ v) : Qt c e (e.pt k a v) := .wr h ha.1 ha.2.2.2 (ha.ok hv)
theorem Qt.cas (h : MI c e) (ha : Fr c a) (hv : 0 ≤ v) : Qt c e (e.cas a o v) := by
  refine Qt.fr h ha ?_
  show 0 ≤ if _ then v else e.m.gt a
  split
  · exact hv
  · exact h.p a
theorem Qt.ring (h : MI c e) (w u : Int) {b : Int} (hb : 0 ≤ b) (hv : 0 ≤ v ∧ v < c.tasks) : Qt c e (e.pt k (agC (aaw (aao c) w u) b) v) := by
  have := anK h.d w u hb
  exact .wr h (by omega) (by omega) (aCR h.d w u hb hv)
def adO (c : Cfg) (k : Int) : Prop := 0 ≤ k ∧ anO k 65535 < c.tasks
theorem Qt.slot (h : MI c e) {i : Int} (hv : adO c v) : Qt c e (e.pt k (aeF (aao c) i) v) := by
  have := anJ h.d (i := i)
  exact .wr h (by omega) (by omega) (aCQ h.d hv.1 hv.2)
theorem Qt.em {w l : Int} (h : Qt c e e') (ht : 0 ≤ t ∧ t < c.tasks) (hk : k ≠ 1 ∧ k ≠ 3 ∧ k ≠ 11 ∧ k ≠ 12) : Qt c e (e'.em k w t o l) := by
  obtain ⟨m, hm, hp⟩ := h.ev
  refine ⟨⟨h.i.d, h.i.l, h.i.cc, h.i.ok⟩, h.lv, h.nx, m ++ [⟨k, w, t, o, l⟩], ?_, fun x hx => ?_⟩
  · show e'.evs ++ [_] = _
    rw [hm, List.append_assoc]
  · rcases List.mem_append.1 hx with hx | hx
    · exact hp x hx
    · rw [List.mem_singleton.1 hx]
      exact ⟨ht, hk⟩
theorem Qt.pr {r : RecP} (h : Qt c e e') : Qt c e (e'.pr t r) := ⟨⟨h.i.d, h.i.l, h.i.cc, h.i.ok⟩, h.lv, h.nx, h.ev⟩
theorem atY (h : MI c e) (w u : Int) {b : Int} (hb : 0 ≤ b) : 0 ≤ wi (e.gt (agC (aaw (aao c) w u) b)) ∧ wi (e.gt (agC (aaw (aao c) w u) b)) < c.tasks := by
  have h1 := h.ok (agC (aaw (aao c) w u) b)
  have h2 := h.d.t
  have h3 : e.gt (agC (aaw (aao c) w u) b) < c.tasks := by
    rcases anK h.d w u hb with h4 | h4
    · exact h1.r h4
    · have : e.gt (agC (aaw (aao c) w u) b) = 0 := by
        show e.m.gt _ = 0
        unfold MemV.gt
        rw [if_neg]
        intro h5
        have h6 : ckC c (agC (aaw (aao c) w u) b) ≠ 9 := by
          unfold ckC; repeat' split
          all_goals omega
        exact h6 h4
      omega
  have h4 := h1.p
  rw [aaQ (aau (by omega))]
  exact ⟨h4, h3⟩
theorem ahH (h : MI c e) (i : Int) : adO c (e.gt (aeF (aao c) i)) := by
  have h1 := h.ok (aeF (aao c) i)
  have h2 := h.d.t
  refine ⟨h1.p, ?_⟩
  rcases anJ h.d (i := i) with h4 | h4
  · exact h1.s h4
  · have : e.gt (aeF (aao c) i) = 0 := by
      show e.m.gt _ = 0
      unfold MemV.gt
      rw [if_neg]
      intro h5
      have h6 : ckC c (aeF (aao c) i) ≠ 9 := by
        unfold ckC; repeat' split
        all_goals omega
      exact h6 h4
    rw [this]
    show anO 0 65535 < _
    have : anO 0 65535 = 0 := by decide
    omega
theorem avo (h : MI c e) (t : Int) : 0 ≤ Lv c e t ∧ Lv c e t < c.levels := by
  have h1 := h.ok (abM (aao c) t)
  have h2 := h.d.l
  refine ⟨h1.p, ?_⟩
  rcases afw h.d (t := t) with h4 | ⟨_, h4⟩
  · exact h1.l h4
  · show e.m.gt (abM (aao c) t) < _
    rw [h4]
    unfold MemV.gt
    rw [if_neg (by omega)]
    omega
end
def Rs.Q {σ : Type} (P : σ → Prop) (F : Int → Int → Prop) : Rs σ → Prop
  | .go s => P s
  | .fin c v => F c v
theorem Rs.Q.ite {σ : Type} {P : σ → Prop} {F : Int → Int → Prop} {p : Prop} [Decidable p] {a b : Rs σ} (h1 : p → a.Q P F) (h2 : ¬ p → b.Q P F) : (if p then a else b).Q P F := by
  split
  · exact h1 ‹_›
  · exact h2 ‹_›
def TOk (c : Cfg) (t : Int) : Prop := 0 ≤ t ∧ t < c.tasks
def amE : OPushS → Prop
  | .l1 => True
  | .l2 b => 0 ≤ b
  | .l3 b => 0 ≤ b
  | .l4 b => 0 ≤ b
def ay5 : OPopS → Prop
  | .l1 => True
  | .l2 b => 0 ≤ b
  | .l3 b _ => 0 ≤ b
  | .l4 b _ => 0 ≤ b
  | .l5 b _ => 0 ≤ b
  | .l6 b _ => 0 ≤ b
  | .l7 b _ => 0 ≤ b
  | .l8 b _ => 0 ≤ b
  | .l9 b _ => 0 ≤ b
def aum (c : Cfg) : StealS → Prop
  | .l1 => True
  | .l2 t => 0 ≤ t
  | .l3 t => 0 ≤ t
  | .l4 _ v => TOk c (wi v)
def anQ (c : Cfg) : InsertS → Prop
  | .l1 => True
  | .l2 _ => True
  | .l3 _ _ k x => adO c k ∧ adO c x
  | .l4 _ _ k x => adO c k ∧ adO c x
  | .l5 _ _ k x => adO c k ∧ adO c x
  | .l6 _ _ k x => adO c k ∧ adO c x
def alG (c : Cfg) : RemoveS → Prop
  | .l1 => True
  | .l2 _ => True
  | .l3 _ x => adO c x
  | .l4 _ x y => adO c x ∧ adO c y
  | .l5 _ _ _ x y z => adO c x ∧ adO c y ∧ adO c z
  | .l6 _ _ _ x y z => adO c x ∧ adO c y ∧ adO c z
  | .l7 _ _ _ x y z => adO c x ∧ adO c y ∧ adO c z
  | .l8 _ _ _ x y z => adO c x ∧ adO c y ∧ adO c z
section
variable {c : Cfg} {e : EnvP} {w v x : Int}
theorem aCJ (h : MI c e) (hx : TOk c x) (s : OPushS) (hs : amE s) : Qt c e (aeS (aaw (aao c) w v) x e s).2 ∧ (aeS (aaw (aao c) w v) x e s).1.Q amE (fun _ _ => True) := by
  have ht := h.d.t
  cases s with
  | l1 => exact ⟨.lk h, h.p _⟩
  | l2 b => exact ⟨.lk h, .ite (fun _ => trivial) fun _ => hs⟩
  | l3 b => exact ⟨.ring h _ _ hs (by rw [agD (by unfold TOk at hx; omega)]; exact hx), hs⟩
  | l4 b => exact ⟨.fr h (alr h.d _ _) (agO _), trivial⟩
theorem aEG (h : MI c e) (s : OPopS) (hs : ay5 s) : Qt c e (anj (aaw (aao c) w v) e s).2 ∧ (anj (aaw (aao c) w v) e s).1.Q ay5 (fun r x => r = 1 → TOk c x) := by
  cases s with
  | l1 => exact ⟨.lk h, h.p _⟩
  | l2 b => exact ⟨.lk h, .ite (fun _ => fun h => absurd h (by omega)) fun _ => hs⟩
  | l3 b t => exact ⟨.fr h (alr h.d _ _) (agO _), hs⟩
  | l4 b t => exact ⟨.lk h, .ite (fun _ => hs) fun _ => .ite (fun _ => hs) fun _ => hs⟩
  | l5 b t => exact ⟨.lk h, fun _ => atY h _ _ (agO _)⟩
  | l6 b t => exact ⟨.cas h (aBu h.d _ _) (agO _), .ite (fun _ => hs) fun _ => hs⟩
  | l7 b t => exact ⟨.fr h (alr h.d _ _) hs, hs⟩
  | l8 b t => exact ⟨.lk h, fun _ => atY h _ _ (agO _)⟩
  | l9 b t => exact ⟨.fr h (alr h.d _ _) hs, fun h => absurd h (by omega)⟩
theorem aBY (h : MI c e) (s : StealS) (hs : aum c s) : Qt c e (ag1 (aaw (aao c) w v) e s).2 ∧ (ag1 (aaw (aao c) w v) e s).1.Q (aum c) (fun r x => r = 1 → TOk c x) := by
  cases s with
  | l1 => exact ⟨.lk h, h.p _⟩
  | l2 b => exact ⟨.lk h, .ite (fun _ => fun h => absurd h (by omega)) fun _ => hs⟩
  | l3 t => exact ⟨.lk h, atY h _ _ hs⟩
  | l4 t u => exact ⟨.cas h (aBu h.d _ _) (agO _), .ite (fun _ => fun _ => hs) fun _ => fun h => absurd h (by omega)⟩
theorem axc {a b : Int} (h : MI c e) (s : ResetS) : Qt c e (afo (aaI (aao c) a) b (aaw (aao c) w v) e s).2 := by
  cases s with
  | l1 => exact .fr h (aoX h.d) (amy _ _)
  | l2 => exact .lk h
  | l3 x => exact .lk h
  | l4 x => exact .fr h (aoX h.d) (ava _ _)
theorem aGd {a b : Int} (h : MI c e) : Qt c e (aCd (aaI (aao c) a) b e) := .fr h (aoX h.d) (ava _ _)
theorem akk {t : Int} (h : MI c e) (ht : TOk c t) : Qt c e (agz w t e) := by
  unfold agz
  rw [h.l]
  split
  · split
    · exact (Qt.cas h (af5 h.d) (by omega)).em ht (by omega)
    · exact (Qt.cas h (af5 h.d) (by omega)).pr.em ht (by omega)
  · exact (Qt.cas h (af5 h.d) (by omega)).em ht (by omega)
theorem asu {o : Int} (h : MI c e) : Qt c e (atV o e) := .cas h (aoW h.d (by omega)) (agO _)
theorem ayc (h : MI c e) : Qt c e (asF e) := .fr h (aoW h.d (by omega)) (by omega)
theorem arR (h : MI c e) : ckC c (ag4 w e) = 3 ∨ ckC c (ag4 w e) = 9 := by
  unfold ag4
  rw [h.l]
  split
  · exact .inr afH
  · exact apc h.d
theorem auv {j : Int} (h : MI c e) : ckC c (alJ v j e) = 3 ∨ ckC c (alJ v j e) = 9 := by
  unfold alJ
  rw [h.l]
  split
  · exact .inr afH
  · exact apc h.d
theorem an8 (h : MI c e) : Fr c (ag4 w e) := apv rfl (by have := arR (w := w) h; omega)
theorem azl {j : Int} (h : MI c e) : Fr c (alJ v j e) := apv rfl (by have := auv (v := v) (j := j) h; omega)
theorem TOk.zero (h : DecOk c) : 0 ≤ (0 : Int) ∧ 0 < c.tasks := by have := h.t; omega
theorem aB4 (h : MI c e) (s : SleepS) : Qt c e (afn w e s).2 := by
  have hz := TOk.zero h.d
  cases s with
  | l1 => exact .lk h
  | l2 ep => exact .fr h (an8 h) (ava _ _)
  | l3 ep => exact .lk h
  | l4 ep v =>
    simp only [afn]
    split
    · exact .lk h
    · split
      · exact (Qt.lk h).em hz (by omega)
      · exact .lk h
  | l5 ep v s =>
    simp only [afn]
    split
    · exact (Qt.lk h).em hz (by omega)
    · split
      · exact (Qt.lk h).em hz (by omega)
      · exact .lk h
  | l6 _ _ _ => exact .fr h (an8 h) (amy _ _)
  | l7 _ _ _ => exact .fr h (an8 h) (amy _ _)
theorem arJ (h : MI c e) (s : WakeS) : Qt c e (aec w v e s).2 := by
  have hz := TOk.zero h.d
  cases s with
  | l1 j => exact .lk h
  | l2 j x => exact .fr h (azl h) (amy _ _)
  | l3 j x =>
    show Qt c e ((e.pt 6 (afO e.l x) _).em 18 w 0 x 0)
    rw [h.l]
    exact (Qt.fr h (aAy h.d) (agO _)).em hz (by omega)
theorem aCz (h : MI c e) (s : ProbeS) : Qt c e (aiy w e s).2 := by
  have g : ∀ s i bm, Qt c e (ah4 w e s i bm).2 := fun s i bm => by
    unfold ah4
    split
    · exact .refl h
    · simp only
      split
      · exact .lk h
      · exact .lk h
  cases s with
  | new => exact g _ _ _
  | run s i bm => exact g _ _ _
end
theorem ak5 (a : Int) : (BitVec.ofInt 64 a).toNat = (a % 18446744073709551616).toNat := by
  rw [BitVec.toNat_ofInt]; rfl
theorem aut {n : Nat} (h : n < 18446744073709551616) : IntKind.u64.wrap (n : Int) = (n : Int) := by
  rw [awx]; omega
theorem axC (a b : Int) : orU a b = (((a % 18446744073709551616).toNat ||| (b % 18446744073709551616).toNat : Nat) : Int) := by
  show IntKind.u64.wrap ((BitVec.ofInt 64 a ||| BitVec.ofInt 64 b).toNat : Int) = _
  rw [BitVec.toNat_or, ak5, ak5, aut]
  exact Nat.or_lt_two_pow (n := 64) (by omega) (by omega)
theorem arq (a : Int) : anO a 65535 = (((a % 18446744073709551616).toNat % 65536 : Nat) : Int) := by
  show IntKind.u64.wrap ((BitVec.ofInt 64 a &&& BitVec.ofInt 64 65535).toNat : Int) = _
  have e : ((65535 : Int) % 18446744073709551616).toNat = 2 ^ 16 - 1 := by decide
  rw [BitVec.toNat_and, ak5, ak5, e, Nat.and_two_pow_sub_one_eq_mod, aut (by omega)]
theorem axE (a b : Int) : (orU a b).toNat % 65536 = ((a % 18446744073709551616).toNat % 65536) ||| ((b % 18446744073709551616).toNat % 65536) := by
  rw [axC, Int.toNat_natCast]
  exact Nat.or_mod_two_pow (n := 16)
theorem axD (a b : Int) : orU a b % 18446744073709551616 = orU a b := by
  have h : (a % 18446744073709551616).toNat ||| (b % 18446744073709551616).toNat < 2 ^ 64 := Nat.or_lt_two_pow (by omega) (by omega)
  rw [axC]
  omega
theorem az0 {d a t : Int} (ht : 0 ≤ t ∧ t ≤ 65535) : anO (aop d a t).1 65535 = t ∨ (aop d a t).1 = 0 := by
  unfold aop
  by_cases h1 : d < 0
  · rw [if_pos h1]; exact .inr rfl
  rw [if_neg h1]
  by_cases h2 : 16777215 < d
  · rw [if_pos h2]; exact .inr rfl
  rw [if_neg h2]
  by_cases h3 : a < 0
  · rw [if_pos h3]; exact .inr rfl
  rw [if_neg h3]
  by_cases h4 : 16777215 < a
  · rw [if_pos h4]; exact .inr rfl
  rw [if_neg h4, if_neg (by omega), if_neg (by omega)]
  refine .inl ?_
  simp only
  rw [arq, axD, axE, axD, axE]
  have p40 : (2 : Int) ^ min (40 : Int).toNat IntKind.u64.bits = 1099511627776 := by decide
  have p16 : (2 : Int) ^ min (16 : Int).toNat IntKind.u64.bits = 65536 := by decide
  rw [p40, p16, agD (x := d) (by omega), agD (x := a) (by omega), agD (x := t) (by omega)]
  have e1 : ((wu (d * 1099511627776)) % 18446744073709551616).toNat % 65536 = 0 := by
    have : wu (d * 1099511627776) = d * 1099511627776 % 18446744073709551616 := awx _
    rw [this]; omega
  have e2 : ((wu (a * 65536)) % 18446744073709551616).toNat % 65536 = 0 := by
    have : wu (a * 65536) = a * 65536 % 18446744073709551616 := awx _
    rw [this]; omega
  rw [e1, e2]
  simp
  omega
theorem aCA {c : Cfg} (hd : DecOk c) {d a t : Int} (ht : TOk c t) : adO c (aop d a t).1 := by
  have h := hd.t
  have h2 : 0 ≤ (aop d a t).1 := by
    unfold aop
    repeat' split
    all_goals first | exact Int.le_refl 0 | exact ava _ _
  refine ⟨h2, ?_⟩
  rcases az0 (d := d) (a := a) (t := t) (by unfold TOk at ht; omega) with e | e
  · rw [e]; exact ht.2
  · rw [e, arq]; simp; omega
theorem aqQ {c : Cfg} (hd : DecOk c) {k : Int} (hk : adO c k) : TOk c (asy k) := by
  have h := hd.t
  have e : asy k = anO k 65535 := by
    show wi (anO k 65535) = _
    have h1 := amy k 65535
    have h2 := hk.2
    exact aaQ (aau (by omega))
  unfold TOk
  rw [e]
  exact ⟨amy _ _, hk.2⟩
theorem aqP {c : Cfg} (hd : DecOk c) : adO c 0 := by
  have h := hd.t
  refine ⟨Int.le_refl 0, ?_⟩
  rw [arq]; simp; omega
section
variable {c : Cfg} {e : EnvP} {w x : Int}
theorem auX {n i k x : Int} (h1 : adO c k) (h2 : adO c x) : anQ c (ar9 n i k x) := by
  unfold ar9
  split
  · exact ⟨h1, h2⟩
  · exact ⟨h1, h2⟩
theorem avn {d t : Int} (h : MI c e) (ht : TOk c t) (s : InsertS) (hs : anQ c s) : Qt c e (acO d t e s).2 ∧ (acO d t e s).1.Q (anQ c) (fun _ _ => True) := by
  cases s with
  | l1 => exact ⟨.lk h, .ite (fun _ => trivial) fun _ => trivial⟩
  | l2 n => exact ⟨.fr h (aoW h.d (by omega)) (agO _), .ite (fun _ => auX (aCA h.d ht) (aqP h.d)) fun _ => trivial⟩
  | l3 n i k x =>
    unfold acO
    rw [h.l]
    exact ⟨.lk h, .ite (fun _ => ⟨hs.1, ahH h _⟩) fun _ => ⟨hs.1, ahH h _⟩⟩
  | l4 n i k x =>
    unfold acO
    rw [h.l]
    exact ⟨.slot h hs.2, auX hs.1 hs.2⟩
  | l5 n i k x =>
    unfold acO
    rw [h.l]
    exact ⟨.slot h hs.1, hs⟩
  | l6 n i k x => exact ⟨.fr h (aoW h.d (by omega)) (agO _), trivial⟩
theorem avI {n i d x y z : Int} (h1 : adO c x) (h2 : adO c y) (h3 : adO c z) : alG c (asT n i d x y z) := by
  unfold asT
  split
  · exact ⟨h1, h2, h3⟩
  · exact ⟨h1, h2, h3⟩
theorem at7 {n i d x y z : Int} (h1 : adO c x) (h2 : adO c y) (h3 : adO c z) : alG c (awj n i d x y z) := by
  unfold awj
  split
  · exact ⟨h1, h2, h3⟩
  · exact ⟨h1, h2, h3⟩
theorem azS (h : MI c e) (s : RemoveS) (hs : alG c s) : Qt c e (ada w e s).2 ∧ (ada w e s).1.Q (alG c) (fun r x => r ≠ 2 → TOk c x) := by
  cases s with
  | l1 => exact ⟨.lk h, .ite (fun _ => fun h => absurd rfl h) fun _ => trivial⟩
  | l2 n =>
    unfold ada
    rw [h.l]
    exact ⟨.lk h, ahH h _⟩
  | l3 n x =>
    unfold ada
    rw [h.l]
    exact ⟨.lk h, hs, ahH h _⟩
  | l4 n x y => exact ⟨(Qt.fr h (aoW h.d (by omega)) (agO _)).em (aqQ h.d hs.1) (by omega), .ite (fun _ => fun _ => aqQ h.d hs.1) fun _ => avI hs.1 hs.2 (aqP h.d)⟩
  | l5 n i d x y z =>
    unfold ada
    rw [h.l]
    exact ⟨.lk h, .ite (fun _ => ⟨hs.1, hs.2.1, ahH h _⟩) fun _ => at7 hs.1 hs.2.1 (ahH h _)⟩
  | l6 n i d x y z =>
    unfold ada
    rw [h.l]
    exact ⟨.lk h, .ite (fun _ => at7 hs.1 hs.2.1 (ahH h _)) fun _ => at7 hs.1 hs.2.1 hs.2.2⟩
  | l7 n i d x y z =>
    unfold ada
    rw [h.l]
    exact ⟨.slot h hs.2.2, avI hs.1 hs.2.1 hs.2.2⟩
  | l8 n i d x y z =>
    unfold ada
    rw [h.l]
    exact ⟨.slot h hs.2.1, fun _ => aqQ h.d hs.1⟩
end
structure Rsd (c : Cfg) (e e' : EnvP) (t v : Int) : Prop where
  i : MI c e'
  tk : TOk c t
  vk : 0 ≤ v ∧ v < c.levels
  up : Lv c e t < v
  now : Lv c e' t = v
  ot : ∀ u, u ≠ t → Lv c e' u = Lv c e u
  nx : e'.gt 0 = e.gt 0
  ev : ∃ k w o l, (k = 11 ∨ k = 12) ∧ e'.evs = e.evs ++ (⟨k, w, t, o, v⟩ :: l) ∧ ∀ x ∈ l, Pl c x
def Rz (c : Cfg) (e e' : EnvP) : Prop := Qt c e e' ∨ ∃ t v, Rsd c e e' t v
section
variable {c : Cfg} {e e' : EnvP} {w v x : Int}
theorem Rsd.em {t v k w u o l : Int} (h : Rsd c e e' t v) (ht : 0 ≤ u ∧ u < c.tasks) (hk : k ≠ 1 ∧ k ≠ 3 ∧ k ≠ 11 ∧ k ≠ 12) : Rsd c e (e'.em k w u o l) t v := by
  obtain ⟨k1, w1, o1, m, h1, hm, hp⟩ := h.ev
  refine ⟨⟨h.i.d, h.i.l, h.i.cc, h.i.ok⟩, h.tk, h.vk, h.up, h.now, h.ot, h.nx, k1, w1, o1, m ++ [⟨k, w, u, o, l⟩], h1, ?_, fun x hx => ?_⟩
  · show e'.evs ++ [_] = _
    rw [hm, List.append_assoc, List.cons_append]
  · rcases List.mem_append.1 hx with hx | hx
    · exact hp x hx
    · rw [List.mem_singleton.1 hx]
      exact ⟨ht, hk⟩
theorem Rz.em {k w u o l : Int} (h : Rz c e e') (ht : 0 ≤ u ∧ u < c.tasks) (hk : k ≠ 1 ∧ k ≠ 3 ∧ k ≠ 11 ∧ k ≠ 12) : Rz c e (e'.em k w u o l) := by
  rcases h with h | ⟨t, v, h⟩
  · exact .inl (h.em ht hk)
  · exact .inr ⟨t, v, h.em ht hk⟩
theorem Rz.i (h : Rz c e e') : MI c e' := by
  rcases h with h | ⟨t, v, h⟩
  · exact h.i
  · exact h.i
theorem Qt.same (h : MI c e) (h1 : ∀ b, e'.gt b = e.gt b) (h2 : e'.l = e.l) (h3 : e'.c = e.c) (h4 : e'.evs = e.evs) : Qt c e e' :=
  ⟨⟨h.d, by rw [h2]; exact h.l, by rw [h3]; exact h.cc, fun a => by rw [h1]; exact h.ok a⟩, fun t => h1 _, h1 _, [], by rw [h4]; simp, fun x hx => by cases hx⟩
theorem amX {a o v b : Int} : (e.cas a o v).gt b = if e.hit a o = true ∧ b = a then v else e.gt b := by
  have h : (e.cas a o v).gt b = (e.pt 3 a (if e.m.gt a = o then v else e.m.gt a)).gt b := rfl
  rw [h, ahl]
  by_cases hr : 0 ≤ a ∧ a < (e.m.cells.length : Int)
  · have hg : e.m.gt a = aeA e.m.cells a := by unfold MemV.gt; rw [if_pos hr]
    by_cases hh : aeA e.m.cells a = o
    · have h1 : e.hit a o = true := by show decide _ = true; rw [decide_eq_true ⟨hr, hh⟩]
      by_cases hb : b = a
      · rw [if_pos (show b = a ∧ 0 ≤ a ∧ a < (e.m.cells.length : Int) from ⟨hb, hr⟩), if_pos (show e.hit a o = true ∧ b = a from ⟨h1, hb⟩), hg, if_pos hh]
      · rw [if_neg (show ¬ (b = a ∧ 0 ≤ a ∧ a < (e.m.cells.length : Int)) from fun h => hb h.1), if_neg (show ¬ (e.hit a o = true ∧ b = a) from fun h => hb h.2)]
    · have h1 : ¬ e.hit a o = true := by
        show ¬ decide _ = true
        rw [decide_eq_true_iff]
        exact fun h => hh h.2
      rw [if_neg (show ¬ (e.hit a o = true ∧ b = a) from fun h => h1 h.1)]
      by_cases hb : b = a
      · rw [if_pos (show b = a ∧ 0 ≤ a ∧ a < (e.m.cells.length : Int) from ⟨hb, hr⟩), hg, if_neg hh, hb]; exact hg.symm
      · rw [if_neg (show ¬ (b = a ∧ 0 ≤ a ∧ a < (e.m.cells.length : Int)) from fun h => hb h.1)]
  · have h1 : ¬ e.hit a o = true := by
      show ¬ decide _ = true
      rw [decide_eq_true_iff]
      exact fun h => hr h.1
    rw [if_neg (show ¬ (e.hit a o = true ∧ b = a) from fun h => h1 h.1), if_neg (show ¬ (b = a ∧ 0 ≤ a ∧ a < (e.m.cells.length : Int)) from fun h => hr h.2)]
theorem Qt.miss {a o v : Int} (h : MI c e) (hm : ¬ e.hit a o = true) : Qt c e (e.cas a o v) := .same h (fun b => by rw [amX, if_neg (fun h => hm h.1)]) rfl rfl rfl
theorem asA {a o : Int} (h : e.hit a o = true) : e.gt a = o ∧ 0 ≤ a := by
  have h : decide ((0 ≤ a ∧ a < (e.m.cells.length : Int)) ∧ aeA e.m.cells a = o) = true := h
  have h := of_decide_eq_true h
  refine ⟨?_, h.1.1⟩
  show e.m.gt a = o
  unfold MemV.gt
  rw [if_pos h.1]; exact h.2
theorem asw (hd : DecOk c) {t u : Int} (ht : TOk c t) (h : abM (aao c) u = abM (aao c) t) : u = t := by
  have e1 := adG hd (t := t) (f := 1) (by omega)
  have e2 := adG hd (t := u) (f := 1) (by omega)
  have e3 := agl hd
  have h4 := hd.h
  have h : acU (aao c) u 1 = acU (aao c) t 1 := h
  have ht : 0 ≤ t ∧ t < c.tasks := ht
  rw [e1, e2, if_pos ht] at h
  by_cases hu : 0 ≤ u ∧ u < c.tasks
  · rw [if_pos hu] at h; omega
  · rw [if_neg hu] at h; omega
theorem avi (hd : DecOk c) {t v : Int} (hv : 0 ≤ v ∧ v < c.levels) : CellOk c (abM (aao c) t) v := by
  have e := afw hd (t := t)
  exact ⟨hv.1, fun k => by omega, fun k => by omega, fun k => hv.2⟩
theorem aw5 (h : MI c e) {t q v k w o : Int} (ht : TOk c t) (hv : 0 ≤ v ∧ v < c.levels) (hq : q < v) (hh : e.hit (abM (aao c) t) q = true) (hk : k = 11 ∨ k = 12) : Rsd c e ((e.cas (abM (aao c) t) q v).em k w t o v) t v := by
  have hg := asA hh
  refine ⟨⟨h.d, h.l, h.cc, fun b => ?_⟩, ht, hv, by show e.gt _ < v; omega, ?_, fun u hu => ?_, ?_, k, w, o, [], hk, rfl, fun x hx => by cases hx⟩
  · show CellOk c b ((e.cas _ q v).gt b)
    rw [amX]
    split
    · rename_i q; rw [q.2]; exact avi h.d hv
    · exact h.ok b
  · show (e.cas _ q v).gt _ = v
    rw [amX, if_pos ⟨hh, rfl⟩]
  · show (e.cas _ q v).gt _ = e.gt _
    rw [amX, if_neg (fun h' => hu (asw h.d ht h'.2))]
  · show (e.cas _ q v).gt 0 = e.gt 0
    rw [amX, if_neg]
    intro h'
    have h1 := afw h.d (t := t)
    rw [← h'.2, aeM] at h1
    omega
def ary (v : Int) : RaiseS → Prop
  | .l1 _ => True
  | .l2 q => q < v
theorem aCu {t : Int} (h : MI c e) (s : RaiseS) (hs : ary v s) : Rz c e (aed w t v e s).2 ∧ (aed w t v e s).1.Q (ary v) (fun _ _ => True) := by
  unfold aed
  rw [h.l]
  split
  · exact ⟨.inl (.refl h), trivial⟩
  rename_i hf
  have hf : awv e t v := Classical.not_not.1 hf
  unfold awv at hf
  rw [h.cc] at hf
  have hl := h.d.l
  cases s with
  | l1 q =>
    refine ⟨.inl (.lk h), ?_⟩
    have hg := avo h t
    have e1 : wi (Lv c e t) = Lv c e t := aaQ (aau (by omega))
    show Rs.Q _ _ (if v ≤ wi (Lv c e t) then _ else _)
    rw [e1]
    exact .ite (fun _ => trivial) fun hn => by show Lv c e t < v; omega
  | l2 q =>
    have e2 : wu v = v := agD (by omega)
    simp only
    split
    · rename_i hh
      rw [e2]
      exact ⟨.inr ⟨t, v, aw5 h hf.1 hf.2 hs hh (.inl rfl)⟩, trivial⟩
    · rename_i hh
      exact ⟨.inl (.miss h hh), trivial⟩
def ahZ : LPushS → Prop
  | .push s => amE s
  | _ => True
theorem aoF (h : MI c e) (hx : TOk c x) (s : LPushS) (hs : ahZ s) : Qt c e (ab2 w v x e s).2 ∧ (ab2 w v x e s).1.Q ahZ (fun _ _ => True) := by
  have g : ∀ s, amE s → Qt c e (match aeS (aaw e.l w v) x e s with
      | (.go s, e') => (Rs.go (LPushS.push s), e')
      | (.fin c _, e') => (if c = 3 then .fin 3 0 else .go .set, e')).2 ∧ (match aeS (aaw e.l w v) x e s with
      | (.go s, e') => (Rs.go (LPushS.push s), e')
      | (.fin c _, e') => (if c = 3 then .fin 3 0 else .go .set, e')).1.Q ahZ (fun _ _ => True) := fun s hs => by
    have := aCJ (w := w) (v := v) h hx s hs
    rw [h.l]
    revert this
    rcases aeS (aaw (aao c) w v) x e s with ⟨r, e'⟩
    intro this
    cases r with
    | go s => exact this
    | fin c0 v0 => exact ⟨this.1, .ite (fun _ => trivial) fun _ => trivial⟩
  cases s with
  | new => exact g .l1 trivial
  | push s => exact g _ hs
  | set =>
    refine ⟨?_, trivial⟩
    show Qt c e (aCd (aaI e.l w) v e)
    rw [h.l]
    exact aGd h
def ay6 : LPopS → Prop
  | .l2 _ s => ay5 s
  | _ => True
theorem aFc (h : MI c e) (s : LPopS) (hs : ay6 s) : Qt c e (agT w e s).2 ∧ (agT w e s).1.Q ay6 (fun r x => r ≠ 2 → TOk c x) := by
  cases s with
  | l1 v =>
    unfold agT
    exact ⟨.lk h, .ite (fun _ => fun h => absurd rfl h) fun _ => trivial⟩
  | l2 v s =>
    have := aEG (w := w) (v := v) h s hs
    simp only [agT]
    rw [h.l]
    revert this
    rcases anj (aaw (aao c) w v) e s with ⟨r, e'⟩
    intro this
    cases r with
    | go s => exact this
    | fin c0 v0 => exact ⟨this.1, .ite (fun hc => fun _ => this.2 hc) fun _ => trivial⟩
  | l3 v s =>
    have := axc (w := w) (v := v) (a := w) (b := v) h s
    simp only [agT]
    rw [h.l]
    revert this
    rcases afo (aaI (aao c) w) v (aaw (aao c) w v) e s with ⟨r, e'⟩
    intro this
    cases r with
    | go s => exact ⟨this, trivial⟩
    | fin c0 v0 => exact ⟨this, trivial⟩
def apk (c : Cfg) (v : Int) : WalkS → Prop
  | .l1 _ => True
  | .raise t s => TOk c t ∧ ary v s
  | .l2 t => TOk c t
  | .push t s => TOk c t ∧ ahZ s
  | .l4 _ => True
theorem aEa (h : MI c e) (s : WalkS) (hs : apk c v s) : Rz c e (afD w v e s).2 ∧ (afD w v e s).1.Q (apk c v) (fun _ _ => True) := by
  have g : ∀ t s, TOk c t → ary v s → Rz c e (match aed w t v e s with
      | (.go s, e') => (Rs.go (WalkS.raise t s), e')
      | (.fin c _, e') => (.go (if c = 1 then .l2 t else .l4 t), e')).2 ∧ (match aed w t v e s with
      | (.go s, e') => (Rs.go (WalkS.raise t s), e')
      | (.fin c _, e') => (.go (if c = 1 then .l2 t else .l4 t), e')).1.Q (apk c v) (fun _ _ => True) := fun t s ht hs => by
    have := aCu (w := w) (t := t) h s hs
    revert this
    rcases aed w t v e s with ⟨r, e'⟩
    intro this
    cases r with
    | go s => exact ⟨this.1, ht, this.2⟩
    | fin c0 v0 =>
      refine ⟨this.1, ?_⟩
      show apk c v (if c0 = 1 then .l2 t else .l4 t)
      split
      · exact ht
      · trivial
  cases s with
  | l1 t =>
    simp only [afD]
    split
    · exact ⟨.inl (.refl h), trivial⟩
    · rename_i hf
      have hf : awv e t v := Classical.not_not.1 hf
      unfold awv at hf
      rw [h.cc] at hf
      exact g t _ hf.1 trivial
  | raise t s => exact g t s hs.1 hs.2
  | l2 t =>
    refine ⟨.inl (.lk h), ?_⟩
    show apk c v (if e.gt (aaV e.l t) = 1 then .push t .new else .l4 t)
    split
    · exact ⟨hs, trivial⟩
    · trivial
  | push t s =>
    have := aoF (w := w) (v := v) h hs.1 s hs.2
    simp only [afD]
    revert this
    rcases ab2 w v t e s with ⟨r, e'⟩
    intro this
    cases r with
    | go s => exact ⟨.inl this.1, hs.1, this.2⟩
    | fin c0 v0 =>
      refine ⟨.inl ?_, trivial⟩
      show Qt c e (if c0 = 3 then e'.em 19 w t 0 v else e')
      split
      · exact this.1.em hs.1 (by omega)
      · exact this.1
  | l4 t =>
    simp only [afD]
    exact ⟨.inl (.lk h), .ite (fun _ => trivial) fun _ => trivial⟩
def auo : EnterS → Prop
  | .l4 _ s => ahZ s
  | _ => True
theorem aDw {t : Int} (h : MI c e) (ht : TOk c t) (s : EnterS) (hs : auo s) : Qt c e (ad5 w t e s).2 ∧ (ad5 w t e s).1.Q auo (fun _ _ => True) := by
  cases s with
  | l1 =>
    simp only [ad5]
    rw [h.l]
    split
    · exact ⟨.refl h, trivial⟩
    · exact ⟨.fr h (anG h.d) (agO _), trivial⟩
  | l2 =>
    simp only [ad5]
    rw [h.l]
    exact ⟨.fr h (af5 h.d) (by omega), trivial⟩
  | l3 => exact ⟨.lk h, trivial⟩
  | l4 v s =>
    have := aoF (w := w) (v := v) h ht s hs
    simp only [ad5]
    revert this
    rcases ab2 w v t e s with ⟨r, e'⟩
    intro this
    cases r with
    | go s => exact this
    | fin c0 v0 => exact ⟨this.1, trivial⟩
def arx (c : Cfg) : SweepS → Prop
  | .l4 q => 0 ≤ q ∧ q + 1 < c.levels
  | .l6 _ s => ahZ s
  | _ => True
theorem aBO {t : Int} (h : MI c e) (ht : TOk c t) (s : SweepS) (hs : arx c s) : Rz c e (abp w t e s).2 ∧ (abp w t e s).1.Q (arx c) (fun _ _ => True) := by
  have hl := h.d.l
  cases s with
  | l1 =>
    simp only [abp]
    split
    · exact ⟨.inl (.refl h), trivial⟩
    · exact ⟨.inl (.lk h), .ite (fun _ => trivial) fun _ => trivial⟩
  | l2 =>
    simp only [abp]
    exact ⟨.inl (.lk h), .ite (fun _ => trivial) fun _ => trivial⟩
  | l3 =>
    simp only [abp]
    rw [h.l, h.cc]
    refine ⟨.inl (.lk h), .ite (fun _ => trivial) fun hn => ?_⟩
    have hg := avo h t
    have e1 : wi (Lv c e t) = Lv c e t := aaQ (aau (by omega))
    have e2 : wi (c.levels - 1) = c.levels - 1 := aaQ (aau (by omega))
    have hn : ¬ wi (c.levels - 1) ≤ wi (Lv c e t) := hn
    rw [e1, e2] at hn
    show 0 ≤ Lv c e t ∧ Lv c e t + 1 < c.levels
    omega
  | l4 q =>
    have hs : 0 ≤ q ∧ q + 1 < c.levels := hs
    have e1 : wu (q + 1) = q + 1 := agD (by omega)
    have e2 : wi (wi q + 1) = q + 1 := by rw [aaQ (x := q) (aau (by omega)), aaQ (aau (by omega))]
    simp only [abp]
    rw [h.l, e1, e2]
    split
    · rename_i hh
      exact ⟨.inr ⟨t, q + 1, aw5 h ht (by omega) (by omega) hh (.inr rfl)⟩, trivial⟩
    · rename_i hh
      exact ⟨.inl (.miss h hh), trivial⟩
  | l5 q =>
    simp only [abp]
    rw [h.l]
    exact ⟨.inl (.fr h (anG h.d) (agO _)), trivial⟩
  | l6 q s =>
    have := aoF (w := w) (v := wi (wi q + 1)) h ht s hs
    simp only [abp]
    revert this
    rcases ab2 w (wi (wi q + 1)) t e s with ⟨r, e'⟩
    intro this
    cases r with
    | go s => exact ⟨.inl this.1, this.2⟩
    | fin c0 v0 =>
      refine ⟨.inl ?_, trivial⟩
      show Qt c e (if c0 = 3 then e'.em 19 w t 0 _ else e')
      split
      · exact this.1.em ht (by omega)
      · exact this.1
def ay4 (c : Cfg) : TakeS → Prop
  | .pop s => ay6 s
  | .claim t => TOk c t
theorem aEg (h : MI c e) (s : TakeS) (hs : ay4 c s) : Qt c e (ajA w e s).2 ∧ (ajA w e s).1.Q (ay4 c) (fun r x => r = 1 → TOk c x) := by
  cases s with
  | pop s =>
    have := aFc (w := w) h s hs
    simp only [ajA]
    revert this
    rcases agT w e s with ⟨r, e'⟩
    intro this
    cases r with
    | go s => exact this
    | fin c0 v0 => exact ⟨this.1, .ite (fun _ => fun h => absurd h (by omega)) fun hn => this.2 hn⟩
  | claim t => exact ⟨akk h hs, .ite (fun _ => fun _ => hs) fun _ => trivial⟩
def as7 (c : Cfg) (d : DrainS) : Prop := (d.direct = true → TOk c d.x) ∧ match d.c with
  | .l3 s => alG c s
  | .l4 => TOk c d.x
  | .l5 s => TOk c d.x ∧ ahZ s
  | _ => True
theorem avu {d : DrainS} (h : d.direct = true → TOk c d.x) : (amT d).Q (as7 c) (fun r x => r = 1 → TOk c x) := by
  unfold amT
  exact .ite (fun k => fun _ => h k) fun _ => .ite (fun _ => fun h => absurd h (by omega)) fun _ => fun h => absurd h (by omega)
theorem aDx (h : MI c e) (d : DrainS) (hd : as7 c d) : Qt c e (abJ w e d).2 ∧ (abJ w e d).1.Q (as7 c) (fun r x => r = 1 → TOk c x) := by
  obtain ⟨x, dir, p, last, cnt, k⟩ := d
  obtain ⟨h1, h2⟩ := hd
  cases k with
  | l1 =>
    simp only [abJ]
    exact ⟨.lk h, .ite (fun _ => fun h => absurd h (by omega)) fun _ => ⟨h1, trivial⟩⟩
  | l2 =>
    simp only [abJ]
    exact ⟨asu h, .ite (fun _ => ⟨h1, trivial⟩) fun _ => fun h => absurd h (by omega)⟩
  | l3 s =>
    have := azS (w := w) h s h2
    simp only [abJ]
    revert this
    rcases ada w e s with ⟨r, e'⟩
    intro this
    cases r with
    | go s => exact ⟨this.1, h1, this.2⟩
    | fin c0 v0 => exact ⟨this.1, .ite (fun _ => ⟨h1, trivial⟩) fun hn => ⟨fun _ => this.2 hn, this.2 hn⟩⟩
  | l4 =>
    simp only [abJ]
    exact ⟨.lk h, h1, h2, trivial⟩
  | l5 s =>
    have := aoF (w := w) (v := p) h h2.1 s h2.2
    simp only [abJ]
    revert this
    rcases ab2 w p x e s with ⟨r, e'⟩
    intro this
    cases r with
    | go s => exact ⟨this.1, h1, h2.1, this.2⟩
    | fin c0 v0 => exact ⟨this.1, .ite (fun _ => ⟨fun _ => h2.1, trivial⟩) fun _ => .ite (fun _ => ⟨h1, trivial⟩) fun _ => ⟨h1, trivial⟩⟩
  | l6 =>
    simp only [abJ]
    exact ⟨ayc h, .ite (fun _ => ⟨h1, trivial⟩) fun _ => avu h1⟩
  | l7 s =>
    have := arJ (w := w) (v := last) h s
    simp only [abJ]
    revert this
    rcases aec w last e s with ⟨r, e'⟩
    intro this
    cases r with
    | go s => exact ⟨this, h1, trivial⟩
    | fin c0 v0 => exact ⟨this, avu h1⟩
end
structure Al (c : Cfg) (e e' : EnvP) : Prop where
  i : MI c e'
  lv : ∀ t, Lv c e' t = Lv c e t
  nx : e'.gt 0 = wu (e.gt 0 + 1) ∨ e'.gt 0 = e.gt 0
  ev : ∃ l, e'.evs = e.evs ++ l ∧ ∀ x ∈ l, Pl c x
structure Al1 (c : Cfg) (e e' : EnvP) : Prop where
  a : Al c e e'
  n : e'.gt 0 = wu (e.gt 0 + 1)
structure W0 (c : Cfg) (e e' : EnvP) (t v : Int) : Prop where
  i : MI c e'
  now : Lv c e' t = v
  ot : ∀ u, u ≠ t → Lv c e' u = Lv c e u
  nx : e'.gt 0 = e.gt 0
  ev : e'.evs = e.evs
structure An (c : Cfg) (e e' : EnvP) (t v : Int) : Prop where
  i : MI c e'
  lv : ∀ t, Lv c e' t = Lv c e t
  nx : e'.gt 0 = e.gt 0
  ev : ∃ l k w o, (k = 1 ∨ k = 3) ∧ (∀ x ∈ l, Pl c x) ∧ e'.evs = e.evs ++ l ++ [⟨k, w, t, o, v⟩]
abbrev arz := Option (Int × Int × Bool)
inductive Tr (c : Cfg) (e e' : EnvP) : arz → arz → Prop
  | same (p : arz) (h : Rz c e e') : Tr c e e' p p
  | drop (p : arz) (h : Rz c e e') : Tr c e e' p none
  | al (h : Al c e e') : Tr c e e' none none
  | al1 (v : Int) (h : Al1 c e e') (ht : TOk c (wi (e.gt 0))) (hv : 0 ≤ v ∧ v < c.levels) : Tr c e e' none (some (wi (e.gt 0), v, false))
  | w0 (t v : Int) (h : W0 c e e' t v) : Tr c e e' (some (t, v, false)) (some (t, v, true))
  | an (t v : Int) (h : An c e e' t v) : Tr c e e' (some (t, v, true)) none
section
variable {c : Cfg} {e e' : EnvP} {w : Int}
theorem Tr.i {p q : arz} (h : Tr c e e' p q) : MI c e' := by
  cases h with
  | same _ h => exact h.i
  | drop _ h => exact h.i
  | al h => exact h.i
  | al1 _ h => exact h.a.i
  | w0 _ _ h => exact h.i
  | an _ _ h => exact h.i
theorem aAX (h : MI c e) : Al c e (ab6 e) ∧ (0 < (e.m.cells.length : Int) → Al1 c e (ab6 e)) := by
  have hv : CellOk c 0 (wu (e.gt 0 + 1)) := ⟨agO _, fun k => by rw [aeM] at k; omega, fun k => by rw [aeM] at k; omega, fun k => by rw [aeM] at k; omega⟩
  have hl : ∀ t, Lv c (ab6 e) t = Lv c e t := fun t => by
    show (e.pt 6 0 (wu (e.gt 0 + 1))).gt _ = e.gt _
    rw [ahl, if_neg]
    intro h'
    have h1 := afw h.d (t := t)
    rw [h'.1, aeM] at h1
    omega
  have hn : (ab6 e).gt 0 = if (0 : Int) = 0 ∧ 0 ≤ (0 : Int) ∧ 0 < (e.m.cells.length : Int) then wu (e.gt 0 + 1) else e.gt 0 := ahl
  have ha : Al c e (ab6 e) := ⟨h.pt hv, hl, by rw [hn]; split; exact .inl rfl; exact .inr rfl, [], by show e.evs = _; simp, fun x hx => by cases hx⟩
  exact ⟨ha, fun hp => ⟨ha, by rw [hn, if_pos ⟨rfl, Int.le_refl 0, hp⟩]⟩⟩
theorem Al.em {k w o l t : Int} (h : Al c e e') (ht : 0 ≤ t ∧ t < c.tasks) (hk : k ≠ 1 ∧ k ≠ 3 ∧ k ≠ 11 ∧ k ≠ 12) : Al c e (e'.em k w t o l) := by
  obtain ⟨m, hm, hp⟩ := h.ev
  refine ⟨⟨h.i.d, h.i.l, h.i.cc, h.i.ok⟩, h.lv, h.nx, m ++ [⟨k, w, t, o, l⟩], ?_, fun x hx => ?_⟩
  · show e'.evs ++ [_] = _
    rw [hm, List.append_assoc]
  · rcases List.mem_append.1 hx with hx | hx
    · exact hp x hx
    · rw [List.mem_singleton.1 hx]
      exact ⟨ht, hk⟩
theorem Al.pr {t : Int} {r : RecP} (h : Al c e e') : Al c e (e'.pr t r) := ⟨⟨h.i.d, h.i.l, h.i.cc, h.i.ok⟩, h.lv, h.nx, h.ev⟩
theorem Al1.pr {t : Int} {r : RecP} (h : Al1 c e e') : Al1 c e (e'.pr t r) := ⟨h.a.pr, h.n⟩
theorem aEb (h : MI c e) {t v : Int} (ht : TOk c t) (hv : 0 ≤ v ∧ v < c.levels) (hr : abM (aao c) t < (e.m.cells.length : Int)) : W0 c e (e.pt 2 (abM (aao c) t) v) t v := by
  have e1 : 0 ≤ abM (aao c) t := by
    have := afw h.d (t := t)
    have e2 := adG h.d (t := t) (f := 1) (by omega)
    have e3 := agl h.d
    have e4 := h.d.h
    show 0 ≤ acU (aao c) t 1
    have ht : 0 ≤ t ∧ t < c.tasks := ht
    rw [e2, if_pos ht]
    omega
  refine ⟨h.pt (avi h.d hv), ?_, fun u hu => ?_, ?_, rfl⟩
  · show (e.pt _ _ _).gt _ = v
    rw [ahl, if_pos ⟨rfl, e1, hr⟩]
  · show (e.pt _ _ _).gt _ = e.gt _
    rw [ahl, if_neg (fun h' => hu (asw h.d ht h'.1))]
  · rw [ahl, if_neg]
    intro h'
    have h1 := afw h.d (t := t)
    rw [← h'.1, aeM] at h1
    omega
theorem Qt.an {t v k w o : Int} (h : Qt c e e') (hk : k = 1 ∨ k = 3) : An c e (e'.em k w t o v) t v := by
  obtain ⟨m, hm, hp⟩ := h.ev
  exact ⟨⟨h.i.d, h.i.l, h.i.cc, h.i.ok⟩, h.lv, h.nx, m, k, w, o, hk, hp, by show e'.evs ++ [_] = _; rw [hm]⟩
def aD1 (c : Cfg) (r : RunS) : Prop := match r.c with
  | .s2 _ => TOk c r.id ∧ (0 ≤ r.level ∧ r.level < c.levels)
  | .s3 s => TOk c r.id ∧ ahZ s
  | .s5 => TOk c r.id
  | .j5 s => apk c r.level s
  | .f4 s => TOk c r.waiter ∧ auo s
  | .f6 => TOk c r.waiter
  | _ => True
def aCx (r : RunS) : arz := match r.c with
  | .s2 .l1 => some (r.id, r.level, false)
  | .s2 _ => some (r.id, r.level, true)
  | _ => none
def aA0 (c : Cfg) (e : EnvP) (p : arz) (o : Rs RunS × EnvP) : Prop := Tr c e o.2 p (match o.1 with
  | .go r => aCx r
  | .fin _ _ => none) ∧ o.1.Q (aD1 c) (fun _ _ => True)
theorem aA0.ite {p : arz} {P : Prop} [Decidable P] {a b : Rs RunS × EnvP} (h1 : P → aA0 c e p a) (h2 : ¬ P → aA0 c e p b) : aA0 c e p (if P then a else b) := by
  split
  · exact h1 ‹_›
  · exact h2 ‹_›
theorem aoK {r : RunS} (h : Rz c e e') : aA0 c e none (agI r e') := by
  unfold agI aA0
  by_cases h1 : r.stack.length = 1
  · rw [if_pos h1]; exact ⟨.same _ h, trivial⟩
  · rw [if_neg h1]; exact ⟨.same _ h, trivial⟩
theorem aEA (h : MI c e) {x : RecP} {i : Int} (hi : ¬ (i < 0 ∨ ((e.prog x).length : Int) ≤ i)) (ho : (acn (e.prog x) i).op = 1) : 0 ≤ (acn (e.prog x) i).b ∧ (acn (e.prog x) i).b < c.levels := by
  have hm : acn (e.prog x) i ∈ e.prog x := auk (α := Ins) (d := (dfR 3 : TR 3)) (by omega)
  have hp : e.prog x ∈ c.progs ∨ e.prog x = [] := by
    unfold EnvP.prog
    rw [h.cc]
    split
    · exact .inr rfl
    · exact .inl (auk (by omega))
  rcases hp with hp | hp
  · rcases h.d.ps _ hp _ hm with k | k | k
    · omega
    · exact k.2.2.2
    · omega
  · rw [hp] at hm; cases hm
theorem aEq {t : Int} {r : RunS} (h : MI c e) (hl : (e.m.cells.length : Int) = aaP c) (ht : TOk c t) (hc : r.c = .next) : aA0 c e none (asq w e r t (e.rc t) (e.prog (e.rc t))) := by
  have hp : aCx r = none := by unfold aCx; rw [hc]
  have hg : aD1 c r := by unfold aD1; rw [hc]; trivial
  have hs : ∀ {e' : EnvP}, Rz c e e' → aA0 c e none (.go r, e') := fun h => ⟨by show Tr c e _ none (aCx r); rw [hp]; exact .same _ h, hg⟩
  have h0 : 0 < (e.m.cells.length : Int) := by
    have := agl h.d
    have h4 := h.d.h
    have h5 := h.d.t
    rw [hl]; unfold aaP; omega
  unfold asq
  rw [h.l]
  refine .ite (fun _ => hs (.inl (Qt.fr h (aqW h.d) (by omega)).pr)) fun _ => ?_
  refine .ite (fun _ => ⟨.same _ (.inl (.fr h (af5 h.d) (by omega))), trivial⟩) fun hi => ?_
  refine .ite (fun _ => hs (.inl (Qt.refl h).pr)) fun _ => ?_
  refine .ite (fun ho => ?_) fun _ => ?_
  · refine .ite (fun hn => ?_) fun hn => ?_
    · have hn : TOk c (wi (e.gt 0)) := by unfold IsT at hn; rw [h.cc] at hn; exact hn
      have hb := aEA h hi ho
      exact ⟨.al1 _ (((aAX h).2 h0).pr.pr) hn hb, hn, hb⟩
    · exact ⟨by show Tr c e _ none (aCx r); rw [hp]; exact .al ((aAX h).1.pr.em ht (by omega)), hg⟩
  · refine .ite (fun _ => hs (.inl (Qt.refl h).pr)) fun _ => ?_
    exact ⟨.same _ (.inl (Qt.fr h (aqW h.d) (agO _)).pr), trivial⟩
theorem aGf {r : RunS} (h : MI c e) (hl : (e.m.cells.length : Int) = aaP c) (hr : aD1 c r) : aA0 c e (aCx r) (atm w e r) := by
  unfold atm
  refine .ite (fun _ => ⟨.drop _ (.inl (.refl h)), trivial⟩) fun ht => ?_
  replace ht : IsT e (aaC r.stack) := Classical.not_not.1 ht
  unfold IsT at ht
  rw [h.cc] at ht
  revert ht
  generalize aaC r.stack = t
  intro ht
  obtain ⟨stack, id, child, level, waiter, k⟩ := r
  cases k with
  | next => exact aEq h hl ht rfl
  | s2 s =>
    obtain ⟨h1, h2⟩ := hr
    have hl2 := h.d.l
    simp only [afc, aff]
    have hi : ¬ ¬ IsT e id := by unfold IsT; rw [h.cc]; exact fun h => h h1
    rw [if_neg hi, h.l]
    cases s with
    | l1 =>
      have h2 : 0 ≤ level ∧ level < c.levels := h2
      have e1 : wu level = level := agD (by omega)
      simp only [e1]
      refine ⟨.w0 _ _ (aEb h h1 h2 ?_), h1, h2⟩
      have e2 := adG h.d (t := id) (f := 1) (by omega)
      show acU (aao c) id 1 < _
      have h1 : 0 ≤ id ∧ id < c.tasks := h1
      rw [e2, if_pos h1, hl]
      unfold aaP
      omega
    | l2 => exact ⟨.same _ (.inl (.fr h (anG h.d) (agO _))), h1, h2⟩
    | l3 => exact ⟨.an _ _ ((Qt.fr h (af5 h.d) (by omega)).an (.inr rfl)), h1, trivial⟩
  | s3 s =>
    have := aoF (w := w) (v := level) h hr.1 s hr.2
    simp only [afc]
    revert this
    rcases ab2 w level id e s with ⟨o, e'⟩
    intro this
    cases o with
    | go s => exact ⟨.same _ (.inl this.1), hr.1, this.2⟩
    | fin c0 v0 =>
      simp only
      split
      · exact ⟨.same _ (.inl this.1), hr.1⟩
      · exact ⟨.same _ (.inl this.1), trivial⟩
  | s4 s =>
    have := arJ (w := w) (v := level) h s
    simp only [afc]
    revert this
    rcases aec w level e s with ⟨o, e'⟩
    intro this
    cases o with
    | go s => exact ⟨.same _ (.inl this), trivial⟩
    | fin c0 v0 => exact ⟨.same _ (.inl this), trivial⟩
  | s5 =>
    simp only [afc]
    split
    · exact ⟨.same _ (.inl (akk h hr)), trivial⟩
    · exact ⟨.same _ (.inl (akk h hr)), trivial⟩
  | j2 =>
    simp only [afc]
    rw [h.l]
    exact ⟨.same _ (.inl (.fr h (af5 h.d) (by omega))), trivial⟩
  | j3 =>
    simp only [afc]
    rw [h.l]
    exact .ite (fun _ => ⟨.same _ (.inl ((Qt.cas h (aqY h.d) (agO _)).em ht (by omega))), trivial⟩) fun _ => ⟨.same _ (.inl (.cas h (aqY h.d) (agO _))), trivial⟩
  | j4 => exact ⟨.same _ (.inl (.lk h)), trivial⟩
  | j5 s =>
    have := aEa (w := w) (v := level) h s hr
    simp only [afc]
    revert this
    rcases afD w level e s with ⟨o, e'⟩
    intro this
    cases o with
    | go s => exact ⟨.same _ this.1, this.2⟩
    | fin c0 v0 => exact aoK (this.1.em ht (by omega))
  | j6 =>
    simp only [afc]
    rw [h.l]
    exact ⟨.same _ (.inl (.fr h (af5 h.d) (by omega))), trivial⟩
  | j7 =>
    simp only [afc]
    rw [h.l]
    exact ⟨.same _ (.inl ((Qt.fr h (aqW h.d) (by omega)).pr.em ht (by omega))), trivial⟩
  | f2 =>
    simp only [afc]
    rw [h.l]
    exact .ite (fun _ => aoK (.inl ((Qt.cas h (aqY h.d) (by omega)).em ht (by omega)))) fun _ => ⟨.same _ (.inl ((Qt.cas h (aqY h.d) (by omega)).em ht (by omega))), trivial⟩
  | f3 =>
    simp only [afc]
    refine .ite (fun hn => ?_) fun _ => aoK (.inl (.lk h))
    unfold IsT at hn
    rw [h.cc] at hn
    exact ⟨.same _ (.inl (.lk h)), hn, trivial⟩
  | f4 s =>
    have := aDw (w := w) h hr.1 s hr.2
    simp only [afc]
    revert this
    rcases ad5 w waiter e s with ⟨o, e'⟩
    intro this
    cases o with
    | go s => exact ⟨.same _ (.inl this.1), hr.1, this.2⟩
    | fin c0 v0 =>
      simp only
      split
      · exact ⟨.same _ (.inl this.1), hr.1⟩
      · exact ⟨.same _ (.inl this.1), trivial⟩
  | f5 v s =>
    have := arJ (w := w) (v := v) h s
    simp only [afc]
    revert this
    rcases aec w v e s with ⟨o, e'⟩
    intro this
    cases o with
    | go s => exact ⟨.same _ (.inl this), trivial⟩
    | fin c0 v0 => exact aoK (.inl this)
  | f6 =>
    simp only [afc]
    exact .ite (fun _ => ⟨.same _ (.inl (akk h hr)), trivial⟩) fun _ => aoK (.inl (akk h hr))
end
section
variable {c : Cfg} {e e' : EnvP} {w : Int}
def as5 (c : Cfg) (k : WorkS) : Prop := match k.c with
  | .t1 t s => TOk c t ∧ arx c s
  | .t2 s => ay4 c s
  | .t3 s => as7 c s
  | .t5 s => aum c s
  | .t6 => TOk c k.x
  | .t7 s => aD1 c s
  | _ => True
def aFQ (k : WorkS) : arz := match k.c with
  | .t7 s => aCx s
  | _ => none
def arv (c : Cfg) (e : EnvP) (p : arz) (o : WorkS × EnvP) : Prop := Tr c e o.2 p (aFQ o.1) ∧ as5 c o.1
theorem arv.ite {p : arz} {P : Prop} [Decidable P] {a b : WorkS × EnvP} (h1 : P → arv c e p a) (h2 : ¬ P → arv c e p b) : arv c e p (if P then a else b) := by
  split
  · exact h1 ‹_›
  · exact h2 ‹_›
theorem arv.ite1 {p : arz} {P : Prop} [Decidable P] {a b : WorkS} {e' : EnvP} (h1 : P → arv c e p (a, e')) (h2 : ¬ P → arv c e p (b, e')) : arv c e p (if P then a else b, e') := by
  split
  · exact h1 ‹_›
  · exact h2 ‹_›
theorem aCV {a n : Int} (hn : 1 ≤ n ∧ n ≤ 1000) : 0 ≤ aqM a n ∧ aqM a n < n := by
  have h1 : Int.tmod a n < n ∧ -n < Int.tmod a n := by
    constructor
    · exact Int.tmod_lt_of_pos _ (by omega)
    · have h2 : Int.tmod (-a) n < n := Int.tmod_lt_of_pos _ (by omega)
      rw [Int.neg_tmod] at h2
      omega
  unfold aqM
  rw [if_neg (by omega)]
  split
  · rw [aaQ (aau (by omega))]; omega
  · omega
theorem atc (h : MI c e) {k : WorkS} (hk : as5 c k) : as5 c { k with c := abL w e k } ∧ aFQ { k with c := abL w e k } = aFQ k := by
  obtain ⟨a, b, d, x, g⟩ := k
  have ht := h.d.t
  cases g with
  | top =>
    unfold abL
    rw [h.cc]
    simp only
    split
    · exact ⟨trivial, rfl⟩
    · exact ⟨⟨aCV (by omega), trivial⟩, rfl⟩
  | _ => exact ⟨hk, rfl⟩
theorem aA2 {k : WorkS} (h : MI c e) (hl : (e.m.cells.length : Int) = aaP c) (hk : as5 c k) : arv c e (aFQ k) (acw w e k) := by
  have hB := atc (w := w) h hk
  unfold acw
  revert hB
  generalize abL w e k = kc
  intro ⟨h1, h2⟩
  rw [← h2]
  cases kc with
  | top => exact ⟨by rw [h2]; exact .same _ (.inl (.refl h)), hk⟩
  | t1 t s =>
    have := aBO (w := w) h h1.1 s h1.2
    simp only
    revert this
    rcases abp w t e s with ⟨o, e'⟩
    intro this
    cases o with
    | go s => exact ⟨.same _ this.1, h1.1, this.2⟩
    | fin c0 v0 => exact ⟨.same _ this.1, trivial⟩
  | t2 s =>
    have := aEg (w := w) h s h1
    simp only
    revert this
    rcases ajA w e s with ⟨o, e'⟩
    intro this
    cases o with
    | go s => exact ⟨.same _ (.inl this.1), this.2⟩
    | fin c0 v0 => exact .ite1 (fun hc => ⟨.same none (.inl this.1), trivial⟩) fun _ => ⟨.same none (.inl this.1), fun h => (by cases h), trivial⟩
  | t3 s =>
    have := aDx (w := w) h s h1
    simp only
    revert this
    rcases abJ w e s with ⟨o, e'⟩
    intro this
    cases o with
    | go s => exact ⟨.same _ (.inl this.1), this.2⟩
    | fin c0 v0 =>
      refine .ite1 (fun hc => ⟨.same none (.inl this.1), this.2 hc⟩) fun _ => .ite1 (fun _ => ⟨.same none (.inl this.1), trivial⟩) fun _ => ?_
      unfold atX
      split
      · exact ⟨.same none (.inl this.1), trivial⟩
      · exact ⟨.same none (.inl this.1), trivial⟩
  | t4 s =>
    have := aCz (w := w) h s
    simp only
    revert this
    rcases aiy w e s with ⟨o, e'⟩
    intro this
    cases o with
    | go s => exact ⟨.same _ (.inl this), trivial⟩
    | fin c0 v0 => exact .ite1 (fun hc => ⟨.same none (.inl this), trivial⟩) fun _ => ⟨.same none (.inl this), trivial⟩
  | t5 s =>
    have := aBY (w := k.victim) (v := k.level) h s h1
    simp only
    rw [h.l]
    revert this
    rcases ag1 (aaw (aao c) k.victim k.level) e s with ⟨o, e'⟩
    intro this
    cases o with
    | go s => exact ⟨.same _ (.inl this.1), this.2⟩
    | fin c0 v0 =>
      refine .ite (fun hc => ⟨.same none (.inl (this.1.em (this.2 hc) (by omega))), this.2 hc⟩) fun _ => .ite (fun _ => ⟨.same none (.inl this.1), trivial⟩) fun _ => ⟨.same none (.inl this.1), trivial⟩
  | t6 =>
    have h1 : TOk c k.x := h1
    exact .ite1 (fun _ => ⟨.same none (.inl (akk h h1)), trivial⟩) fun _ => ⟨.same none (.inl (akk h h1)), trivial⟩
  | t7 s =>
    have := aGf (w := w) h hl h1
    simp only
    revert this
    rcases atm w e s with ⟨o, e'⟩
    intro this
    cases o with
    | go s => exact this
    | fin c0 v0 => exact ⟨this.1, trivial⟩
  | t8 s =>
    have := aB4 (w := w) h s
    simp only
    revert this
    rcases afn w e s with ⟨o, e'⟩
    intro this
    cases o with
    | go s => exact ⟨.same _ (.inl this), trivial⟩
    | fin c0 v0 => exact ⟨.same _ (.inl this), trivial⟩
  | t9 s =>
    have := axc (w := k.victim) (v := k.level) (a := k.victim) (b := k.level) h s
    simp only
    rw [h.l]
    revert this
    rcases afo (aaI (aao c) k.victim) k.level (aaw (aao c) k.victim k.level) e s with ⟨o, e'⟩
    intro this
    cases o with
    | go s => exact ⟨.same _ (.inl this), trivial⟩
    | fin c0 v0 => exact ⟨.same _ (.inl this), trivial⟩
def ay8 (c : Cfg) (k : ClieS) : Prop := 0 ≤ k.i ∧ match k.c with
  | .n4 => TOk c k.id
  | .n5 => TOk c k.id
  | .n6 => TOk c k.id
  | .a6 s => TOk c k.id ∧ anQ c s
  | _ => True
def aGZ (subs : List Sub) (k : ClieS) : arz := match k.c with
  | .n4 => some (k.id, (abS subs k.i).level, false)
  | .n5 => some (k.id, (abS subs k.i).level, true)
  | .n6 => some (k.id, (abS subs k.i).level, true)
  | .a6 _ => some (k.id, (abS subs k.i).level, true)
  | _ => none
def auq (c : Cfg) (e : EnvP) (p : arz) (o : Bool × ClieS × EnvP) : Prop := Tr c e o.2.2 p (aGZ c.subs o.2.1) ∧ ay8 c o.2.1
theorem auq.ite {p : arz} {P : Prop} [Decidable P] {a b : Bool × ClieS × EnvP} (h1 : P → auq c e p a) (h2 : ¬ P → auq c e p b) : auq c e p (if P then a else b) := by
  split
  · exact h1 ‹_›
  · exact h2 ‹_›
theorem ayB {k : ClieS} {p : arz} (hi : 0 ≤ k.i ∧ k.i ≤ 1000) (h : Tr c e e' p none) : auq c e p (ayC c.subs k e') := by
  have e1 : wi (k.i + 1) = k.i + 1 := aaQ (aau (by omega))
  exact ⟨h, by show 0 ≤ wi (k.i + 1); omega, trivial⟩
theorem aFD {k : ClieS} {me : Int} (h : MI c e) (hl : (e.m.cells.length : Int) = aaP c) (hk : ay8 c k) : auq c e (aGZ c.subs k) (ao7 c.subs me e k) := by
  have hsn := h.d.sn
  unfold ao7
  refine .ite (fun _ => ⟨.same _ (.inl (.refl h)), hk⟩) fun hi => ?_
  obtain ⟨i, id, acc, g⟩ := k
  obtain ⟨h0, h1⟩ := hk
  have h0 : 0 ≤ i := h0
  have hi : i < (c.subs.length : Int) := by have hi : ¬ (c.subs.length : Int) ≤ i := hi; omega
  have hs : (0 ≤ (abS c.subs i).level ∧ (abS c.subs i).level < c.levels) := (h.d.ss _ (auk (α := Sub) (d := (dfR 4 : TR 4)) ⟨h0, hi⟩)).2.1
  have hz := TOk.zero h.d
  show auq c e _ (acJ c.subs me e ⟨i, id, acc, g⟩ (abS c.subs i))
  cases g with
  | n1 =>
    simp only [acJ]
    by_cases hh : e.hit 1 0 = true
    · rw [if_pos hh]; exact ⟨.same none (.inl (asu h)), h0, trivial⟩
    · rw [if_neg hh]; exact ⟨.same none (.inl (asu h)), h0, trivial⟩
  | a1 =>
    simp only [acJ]
    by_cases hh : e.hit 1 0 = true
    · rw [if_pos hh]; exact ⟨.same none (.inl (asu h)), h0, trivial⟩
    · rw [if_neg hh]; exact ⟨.same none (.inl (asu h)), h0, trivial⟩
  | n2 =>
    simp only [acJ]
    exact .ite (fun _ => ⟨.same none (.inl ((Qt.lk h).em hz (by omega))), h0, trivial⟩) fun _ => ⟨.same none (.inl (.lk h)), h0, trivial⟩
  | n3 =>
    simp only [acJ]
    refine .ite (fun hn => ?_) fun _ => ⟨.al ((aAX h).1.em hz (by omega)), h0, trivial⟩
    have hn : TOk c (wi (e.gt 0)) := by unfold IsT at hn; rw [h.cc] at hn; exact hn
    have hp : 0 < (e.m.cells.length : Int) := by
      have := agl h.d
      have h4 := h.d.h
      have h5 := h.d.t
      rw [hl]; unfold aaP; omega
    exact ⟨.al1 _ ((aAX h).2 hp).pr hn hs, h0, hn⟩
  | n4 =>
    have h1 : TOk c id := h1
    have hl2 := h.d.l
    have e1 : wu (abS c.subs i).level = (abS c.subs i).level := agD (by omega)
    simp only [acJ]
    rw [h.l, e1]
    refine ⟨.w0 _ _ (aEb h h1 hs ?_), h0, h1⟩
    have e2 := adG h.d (t := id) (f := 1) (by omega)
    show acU (aao c) id 1 < _
    have h1 : 0 ≤ id ∧ id < c.tasks := h1
    rw [e2, if_pos h1, hl]
    unfold aaP
    omega
  | n5 =>
    simp only [acJ]
    rw [h.l]
    exact ⟨.same _ (.inl (.fr h (anG h.d) (agO _))), h0, h1⟩
  | n6 =>
    have h1 : TOk c id := h1
    have := avn (d := (abS c.subs i).deadline) h h1 .l1 trivial
    simp only [acJ]
    revert this
    rcases acO (abS c.subs i).deadline id e .l1 with ⟨o, e'⟩
    intro this
    cases o with
    | go s => exact ⟨.same _ (.inl this.1), h0, h1, this.2⟩
    | fin c0 v0 => exact .ite (fun _ => ⟨.an _ _ (this.1.an (.inl rfl)), h0, trivial⟩) fun _ => ⟨.drop _ (.inl this.1), h0, trivial⟩
  | a6 s =>
    have h2 : TOk c id := h1.1
    have := avn (d := (abS c.subs i).deadline) h h2 s h1.2
    simp only [acJ]
    revert this
    rcases acO (abS c.subs i).deadline id e s with ⟨o, e'⟩
    intro this
    cases o with
    | go s => exact ⟨.same _ (.inl this.1), h0, h2, this.2⟩
    | fin c0 v0 => exact .ite (fun _ => ⟨.an _ _ (this.1.an (.inl rfl)), h0, trivial⟩) fun _ => ⟨.drop _ (.inl this.1), h0, trivial⟩
  | n7 =>
    simp only [acJ]
    rw [h.l]
    exact ⟨.same none (.inl (.fr h (af5 h.d) (by omega))), h0, trivial⟩
  | n8 =>
    simp only [acJ]
    exact .ite (fun _ => ⟨.same none (.inl (ayc h)), h0, trivial⟩) fun _ => ayB ⟨h0, by show i ≤ 1000; omega⟩ (.same none (.inl (ayc h)))
  | n9 =>
    have := arJ (w := me) (v := (abS c.subs i).level) h (.l1 0)
    simp only [acJ]
    revert this
    rcases aec me (abS c.subs i).level e (.l1 0) with ⟨o, e'⟩
    intro this
    cases o with
    | go s => exact ⟨.same none (.inl this), h0, trivial⟩
    | fin c0 v0 => exact ayB ⟨h0, by show i ≤ 1000; omega⟩ (.same none (.inl this))
  | a9 t =>
    have := arJ (w := me) (v := (abS c.subs i).level) h t
    simp only [acJ]
    revert this
    rcases aec me (abS c.subs i).level e t with ⟨o, e'⟩
    intro this
    cases o with
    | go s => exact ⟨.same none (.inl this), h0, trivial⟩
    | fin c0 v0 => exact ayB ⟨h0, by show i ≤ 1000; omega⟩ (.same none (.inl this))
end
theorem MI.ex {c : Cfg} {e : EnvP} (h : MI c e) {k : ClkV} : MI c { e with k := k } := ⟨h.d, h.l, h.cc, h.ok⟩
theorem asD {c : Cfg} {a : Int} : (aiU c).gt a = 0 := by
  show (aiU c).m.gt a = 0
  unfold MemV.gt
  split
  · rename_i h
    exact List.eq_of_mem_replicate (auk (α := Int) (d := (dfR 0 : TR 0)) h)
  · rfl
theorem aE8 {c : Cfg} (h : DecOk c) : MI c (aiU c) := by
  refine ⟨h, rfl, rfl, fun a => ?_⟩
  rw [asD]
  have h1 := h.t
  have h2 := h.l
  have h3 := (aqP h).2
  exact ⟨Int.le_refl 0, fun _ => h3, fun _ => by omega, fun _ => by omega⟩
end
section
inductive Ts where
  | fresh | alloc (m : Nat) | acc (m : Nat) | ready | run (m : Nat) | bm (m : Nat) | wait (u : Int) | fin (m : Nat) | fg (m : Nat) | done
inductive Ph where
  | n | p (id : Int) | q (id : Int) | j (t u : Int) | b (t u : Int) | r (t : Int) | f (t : Int) | g (t : Int) | h (t x : Int)
def upd {α : Type} (f : Int → α) (a : Int) (v : α) (x : Int) : α := if x = a then v else f x
def ail {α : Type} (f : Nat → α) (a : Nat) (v : α) (x : Nat) : α := if x = a then v else f x
theorem abf {α : Type} {f : Int → α} {a : Int} {v : α} : upd f a v a = v := if_pos rfl
theorem aba {α : Type} {f : Int → α} {a x : Int} {v : α} (h : x ≠ a) : upd f a v x = f x := if_neg h
theorem acT {α : Type} {f : Nat → α} {a : Nat} {v : α} : ail f a v a = v := if_pos rfl
theorem aeo {α : Type} {f : Nat → α} {a x : Nat} {v : α} (h : x ≠ a) : ail f a v x = f x := if_neg h
def Ts.mine : Ts → Option Nat
  | .alloc m => some m
  | .acc m => some m
  | .run m => some m
  | .bm m => some m
  | .fin m => some m
  | .fg m => some m
  | _ => none
def Ts.over : Ts → Prop
  | .fg _ => True
  | .done => True
  | _ => False
structure Ab where
  T : Int
  N : Int
  S : Int → Int
  J : Int → Int
  wa : Int → Int
  st : Int → Bool
  kn : Int → Nat
  sn : Int → Nat
  fn : Int → Nat
  ts : Int → Ts
  hd : Nat → List Int
  ph : Nat → Ph
def Ab.ok (a : Ab) (t : Int) : Prop := 0 ≤ t ∧ t < a.T
def aGV (s : Ts) (S wa J : Int) (st : Bool) (kn fn : Nat) : Prop := match s with
  | .fresh => S = 0 ∧ st = false ∧ kn = 0 ∧ fn = 0
  | .alloc _ => S = 0 ∧ st = false ∧ kn = 0 ∧ fn = 0
  | .acc _ => S = 0 ∧ st = false ∧ kn = 1 ∧ fn = 0
  | .ready => S = 1 ∧ kn = 1 ∧ fn = 0
  | .run _ => S = 2 ∧ st = true ∧ kn = 1 ∧ fn = 0
  | .bm _ => S = 3 ∧ st = true ∧ kn = 1 ∧ fn = 0
  | .wait u => S = 3 ∧ st = true ∧ kn = 1 ∧ fn = 0 ∧ wa = u
  | .fin _ => S = 4 ∧ st = true ∧ kn = 1 ∧ fn = 0
  | .fg _ => S = 4 ∧ st = true ∧ kn = 1 ∧ fn = 1 ∧ J ≠ 0
  | .done => S = 4 ∧ st = true ∧ kn = 1 ∧ fn = 1 ∧ J ≠ 0
def Cl (N t : Int) (s : Ts) (S wa J : Int) (st : Bool) (kn sn fn : Nat) : Prop :=
  (sn = if st = true then 1 else 0) ∧ (s = .fresh ↔ N ≤ t) ∧ aGV s S wa J st kn fn
def Ab.phOk (a : Ab) (m : Nat) (hd : List Int) : Ph → Prop
  | .n => True
  | .p i => a.ok i ∧ a.ts i = .alloc m
  | .q i => a.ok i ∧ a.ts i = .acc m
  | .j t u => t ∈ hd ∧ a.wa t = u
  | .b t u => a.ok t ∧ a.ts t = .bm m ∧ a.wa t = u
  | .r t => a.ok t ∧ a.ts t = .bm m
  | .f t => a.ok t ∧ a.ts t = .fin m
  | .g t => a.ok t ∧ a.ts t = .fg m ∧ ∀ w, a.ok w → a.J t = w + 1 → a.ts w = .wait t
  | .h t x => a.ok t ∧ a.ts t = .fg m ∧ a.ok x ∧ a.ts x = .wait t
structure LA (a : Ab) : Prop where
  n0 : 0 ≤ a.N
  no : ∀ t, ¬ a.ok t → a.kn t = 0 ∧ a.sn t = 0 ∧ a.fn t = 0
  cl : ∀ t, a.ok t → Cl a.N t (a.ts t) (a.S t) (a.wa t) (a.J t) (a.st t) (a.kn t) (a.sn t) (a.fn t)
  hd : ∀ m t, t ∈ a.hd m → a.ok t ∧ a.ts t = .run m
  nd : ∀ m, (a.hd m).Nodup
  ph : ∀ m, a.phOk m (a.hd m) (a.ph m)
  j1 : ∀ u w, a.ok u → a.ok w → ¬ (a.ts u).over → a.J u = w + 1 → a.ts w = .wait u
  jb : ∀ u, a.ok u → a.J u ≤ 4294967296
  c4 : ∀ m t, a.ok t → a.ts t = .fin m → a.ph m = .f t
theorem LA.put {a : Ab} (h : LA a) {m : Nat} {t : Int} (ht : a.ok t) {s : Ts} {S wa : Int} {st : Bool} {kn sn fn : Nat} {l : List Int} {p : Ph}
    (own : ∀ m', (a.ts t).mine = some m' → m' = m) (hw : ∀ u, a.ts t = .wait u → a.ok u ∧ a.ts u = .fg m)
    (ho : (a.ts t).over → s.over) (hc : Cl a.N t s S wa (a.J t) st kn sn fn)
    (hl : ∀ x ∈ l, (x = t ∧ s = .run m) ∨ (x ≠ t ∧ x ∈ a.hd m)) (hn : l.Nodup)
    (h4 : ∀ m', s = .fin m' → m' = m ∧ p = .f t) (h5 : ∀ x, x ≠ t → a.ph m ≠ .f x)
    (hp : Ab.phOk { a with S := upd a.S t S, wa := upd a.wa t wa, st := upd a.st t st, kn := upd a.kn t kn, sn := upd a.sn t sn, fn := upd a.fn t fn, ts := upd a.ts t s } m l p) :
    LA { a with S := upd a.S t S, wa := upd a.wa t wa, st := upd a.st t st, kn := upd a.kn t kn, sn := upd a.sn t sn, fn := upd a.fn t fn, ts := upd a.ts t s, hd := ail a.hd m l, ph := ail a.ph m p } where
  n0 := h.n0
  no x hx := by
    have hx' : x ≠ t := fun k => hx (by rw [k]; exact ht)
    have := h.no x hx
    simp only [aba hx']
    exact this
  cl x hx := by
    by_cases hxt : x = t
    · subst hxt; simp only [abf]; exact hc
    · simp only [aba hxt]; exact h.cl x hx
  hd i x hx := by
    by_cases hi : i = m
    · subst hi
      simp only [acT] at hx
      rcases hl x hx with ⟨k, k2⟩ | ⟨k, k2⟩
      · subst k; exact ⟨ht, by simp only [abf]; exact k2⟩
      · have := h.hd i x k2
        exact ⟨this.1, by simp only [aba k]; exact this.2⟩
    · simp only [aeo hi] at hx
      have := h.hd i x hx
      have hxt : x ≠ t := fun k => by
        rw [k] at this
        exact hi (own i (by rw [this.2]; rfl))
      exact ⟨this.1, by simp only [aba hxt]; exact this.2⟩
  nd i := by
    by_cases hi : i = m
    · subst hi; simp only [acT]; exact hn
    · simp only [aeo hi]; exact h.nd i
  ph i := by
    by_cases hi : i = m
    · subst hi; simp only [acT]; revert hp; cases p <;> exact id
    · simp only [aeo hi]
      have hv := h.ph i
      have key : ∀ {x s}, a.ts x = s → s.mine = some i → x ≠ t := fun e1 e2 k => hi (own i (by rw [← k, e1]; exact e2))
      have key2 : ∀ {x u}, a.ts x = .wait u → a.ts u = .fg i → x ≠ t := fun e1 e2 k => hi (by
        have := (hw _ (k ▸ e1)).2
        rw [e2] at this
        exact Ts.fg.inj this)
      cases hq : a.ph i with
      | n => trivial
      | p x => rw [hq] at hv; exact ⟨hv.1, by simp only [aba (key hv.2 rfl)]; exact hv.2⟩
      | q x => rw [hq] at hv; exact ⟨hv.1, by simp only [aba (key hv.2 rfl)]; exact hv.2⟩
      | j x u => rw [hq] at hv; exact ⟨hv.1, by simp only [aba (key (h.hd i x hv.1).2 rfl)]; exact hv.2⟩
      | b x u => rw [hq] at hv; exact ⟨hv.1, by simp only [aba (key hv.2.1 rfl)]; exact hv.2.1, by simp only [aba (key hv.2.1 rfl)]; exact hv.2.2⟩
      | r x => rw [hq] at hv; exact ⟨hv.1, by simp only [aba (key hv.2 rfl)]; exact hv.2⟩
      | f x => rw [hq] at hv; exact ⟨hv.1, by simp only [aba (key hv.2 rfl)]; exact hv.2⟩
      | g x => rw [hq] at hv; exact ⟨hv.1, by simp only [aba (key hv.2.1 rfl)]; exact hv.2.1, fun w hw1 hj => by
          have := hv.2.2 w hw1 hj
          simp only [aba (key2 this hv.2.1)]; exact this⟩
      | h x w => rw [hq] at hv; exact ⟨hv.1, by simp only [aba (key hv.2.1 rfl)]; exact hv.2.1, hv.2.2.1, by simp only [aba (key2 hv.2.2.2 hv.2.1)]; exact hv.2.2.2⟩
  j1 u w hu hw1 ho1 hj := by
    have ho2 : ¬ (a.ts u).over := fun k => by
      by_cases hut : u = t
      · subst hut; simp only [abf] at ho1; exact ho1 (ho k)
      · simp only [aba hut] at ho1; exact ho1 k
    have := h.j1 u w hu hw1 ho2 hj
    have hwt : w ≠ t := fun k => by
      subst k
      have := (hw u this).2
      rw [this] at ho2
      exact ho2 trivial
    simp only [aba hwt]; exact this
  jb := h.jb
  c4 i x hx hf := by
    by_cases hxt : x = t
    · subst hxt
      simp only [abf] at hf
      obtain ⟨k1, k2⟩ := h4 i hf
      subst k1; simp only [acT]; exact k2
    · simp only [aba hxt] at hf
      have := h.c4 i x hx hf
      have hi : i ≠ m := fun k => h5 x hxt (k ▸ this)
      simp only [aeo hi]; exact this
theorem LA.step {a : Ab} (h : LA a) {m : Nat} {l : List Int} {p : Ph} (hl : ∀ x ∈ l, x ∈ a.hd m) (hn : l.Nodup) (hf : ∀ x, a.ph m = .f x → p = .f x) (hp : a.phOk m l p) :
    LA { a with hd := ail a.hd m l, ph := ail a.ph m p } where
  n0 := h.n0
  no := h.no
  cl := h.cl
  hd i x hx := by
    by_cases hi : i = m
    · subst hi; simp only [acT] at hx; exact h.hd i x (hl x hx)
    · simp only [aeo hi] at hx; exact h.hd i x hx
  nd i := by
    by_cases hi : i = m
    · subst hi; simp only [acT]; exact hn
    · simp only [aeo hi]; exact h.nd i
  ph i := by
    by_cases hi : i = m
    · subst hi; simp only [acT]; revert hp; cases p <;> exact id
    · simp only [aeo hi]
      have hv := h.ph i
      revert hv
      cases a.ph i <;> exact id
  j1 := h.j1
  jb := h.jb
  c4 i x hx hq := by
    have := h.c4 i x hx hq
    by_cases hi : i = m
    · subst hi; simp only [acT]; exact hf x this
    · simp only [aeo hi]; exact this
theorem LA.setJ {a : Ab} (h : LA a) {u v : Int} (h0 : v ≠ 0) (hb : v ≤ 4294967296) (hv : ∀ w, a.ok w → v = w + 1 → a.ts w = .wait u) : LA { a with J := upd a.J u v } where
  n0 := h.n0
  no := h.no
  cl x hx := by
    obtain ⟨c1, c2, c3⟩ := h.cl x hx
    refine ⟨c1, c2, ?_⟩
    by_cases hxu : x = u
    · subst hxu
      simp only [abf]
      revert c3
      cases a.ts x <;> first | exact id | exact fun k => ⟨k.1, k.2.1, k.2.2.1, k.2.2.2.1, h0⟩
    · simp only [aba hxu]; exact c3
  hd := h.hd
  nd := h.nd
  ph i := by
    have hq := h.ph i
    revert hq
    cases a.ph i <;> first | exact id | skip
    case g x =>
      refine fun hq => ⟨hq.1, hq.2.1, fun w hw hj => ?_⟩
      by_cases hxu : x = u
      · subst hxu; simp only [abf] at hj; exact hv w hw hj
      · simp only [aba hxu] at hj; exact hq.2.2 w hw hj
  j1 x w hx hw ho hj := by
    by_cases hxu : x = u
    · subst hxu; simp only [abf] at hj; exact hv w hw hj
    · simp only [aba hxu] at hj; exact h.j1 x w hx hw ho hj
  jb x hx := by
    by_cases hxu : x = u
    · subst hxu; simp only [abf]; exact hb
    · simp only [aba hxu]; exact h.jb x hx
  c4 := h.c4
theorem LA.next {a : Ab} (h : LA a) {n : Int} (hn : a.N ≤ n) (ht : a.T ≤ a.N) : LA { a with N := n } where
  n0 := by have := h.n0; show 0 ≤ n; omega
  no := h.no
  cl x hx := by
    obtain ⟨c1, c2, c3⟩ := h.cl x hx
    have hx2 : x < a.T := hx.2
    exact ⟨c1, ⟨fun k => by have := c2.1 k; omega, fun k => by have k : n ≤ x := k; omega⟩, c3⟩
  hd := h.hd
  nd := h.nd
  ph i := by
    have hq := h.ph i
    revert hq
    cases a.ph i <;> exact id
  j1 := h.j1
  jb := h.jb
  c4 := h.c4
theorem LA.alloc {a : Ab} (h : LA a) {m : Nat} (ht : a.N < a.T) {l : List Int} (hl : ∀ x ∈ l, x ∈ a.hd m) (hn : l.Nodup) (hp : a.ph m = .n) :
    LA { a with N := a.N + 1, st := upd a.st a.N false, wa := upd a.wa a.N (-1), ts := upd a.ts a.N (.alloc m), hd := ail a.hd m l, ph := ail a.ph m (.p a.N) } := by
  have hok : a.ok a.N := ⟨h.n0, ht⟩
  have hN := h.cl _ hok
  have hfr : a.ts a.N = .fresh := hN.2.1.2 (Int.le_refl _)
  have hne : ∀ {x s}, a.ts x = s → s ≠ .fresh → x ≠ a.N := fun e1 e2 k => e2 (by rw [← e1, k, hfr])
  rw [hfr] at hN
  obtain ⟨n1, n2, n3⟩ := hN
  refine ⟨by show 0 ≤ a.N + 1; have := h.n0; omega, h.no, fun x hx => ?_, fun i x hx => ?_, fun i => ?_, fun i => ?_, fun u w hu hw ho hj => ?_, h.jb, fun i x hx hf => ?_⟩
  · by_cases hxN : x = a.N
    · subst hxN
      simp only [abf]
      refine ⟨by rw [n1, n3.2.1], ⟨fun k => (by cases k), fun k => (by have k : a.N + 1 ≤ a.N := k; omega)⟩, n3.1, rfl, n3.2.2.1, n3.2.2.2⟩
    · simp only [aba hxN]
      obtain ⟨c1, c2, c3⟩ := h.cl x hx
      exact ⟨c1, ⟨fun k => by have := c2.1 k; omega, fun k => c2.2 (by omega)⟩, c3⟩
  · have key : x ∈ a.hd i := by
      by_cases hi : i = m
      · subst hi; simp only [acT] at hx; exact hl x hx
      · simp only [aeo hi] at hx; exact hx
    have := h.hd i x key
    exact ⟨this.1, by simp only [aba (hne this.2 (by intro k; cases k))]; exact this.2⟩
  · by_cases hi : i = m
    · subst hi; simp only [acT]; exact hn
    · simp only [aeo hi]; exact h.nd i
  · by_cases hi : i = m
    · subst hi; simp only [acT]; exact ⟨hok, by simp only [abf]⟩
    · simp only [aeo hi]
      have hv := h.ph i
      cases hq : a.ph i with
      | n => trivial
      | p x => rw [hq] at hv; exact ⟨hv.1, by simp only [aba (hne hv.2 (by intro k; cases k))]; exact hv.2⟩
      | q x => rw [hq] at hv; exact ⟨hv.1, by simp only [aba (hne hv.2 (by intro k; cases k))]; exact hv.2⟩
      | j x u => rw [hq] at hv; exact ⟨hv.1, by simp only [aba (hne (h.hd i x hv.1).2 (by intro k; cases k))]; exact hv.2⟩
      | b x u => rw [hq] at hv; exact ⟨hv.1, by simp only [aba (hne hv.2.1 (by intro k; cases k))]; exact hv.2.1, by simp only [aba (hne hv.2.1 (by intro k; cases k))]; exact hv.2.2⟩
      | r x => rw [hq] at hv; exact ⟨hv.1, by simp only [aba (hne hv.2 (by intro k; cases k))]; exact hv.2⟩
      | f x => rw [hq] at hv; exact ⟨hv.1, by simp only [aba (hne hv.2 (by intro k; cases k))]; exact hv.2⟩
      | g x => rw [hq] at hv; exact ⟨hv.1, by simp only [aba (hne hv.2.1 (by intro k; cases k))]; exact hv.2.1, fun w hw1 hj => by
          have := hv.2.2 w hw1 hj
          simp only [aba (hne this (by intro k; cases k))]; exact this⟩
      | h x w => rw [hq] at hv; exact ⟨hv.1, by simp only [aba (hne hv.2.1 (by intro k; cases k))]; exact hv.2.1, hv.2.2.1, by simp only [aba (hne hv.2.2.2 (by intro k; cases k))]; exact hv.2.2.2⟩
  · have ho2 : ¬ (a.ts u).over := fun k => by
      by_cases hut : u = a.N
      · rw [hut, hfr] at k; exact k
      · simp only [aba hut] at ho; exact ho k
    have := h.j1 u w hu hw ho2 hj
    simp only [aba (hne this (by intro k; cases k))]; exact this
  · have hxN : x ≠ a.N := fun k => by
      rw [k] at hf; simp only [abf] at hf; cases hf
    simp only [aba hxN] at hf
    have := h.c4 i x hx hf
    have hi : i ≠ m := fun k => by rw [k, hp] at this; cases this
    simp only [aeo hi]; exact this
theorem aFf {T : Int} {wa : Int → Int} {st : Int → Bool} (hs : ∀ t, 0 ≤ t → t < T → st t = false) : LA ⟨T, 0, fun _ => 0, fun _ => 0, wa, st, fun _ => 0, fun _ => 0, fun _ => 0, fun _ => .fresh, fun _ => [], fun _ => .n⟩ where
  n0 := Int.le_refl 0
  no _ _ := ⟨rfl, rfl, rfl⟩
  cl t ht := by
    have h : st t = false := hs t ht.1 ht.2
    exact ⟨by simp only [h]; rfl, ⟨fun _ => ht.1, fun _ => rfl⟩, rfl, h, rfl, rfl⟩
  hd _ _ h := by cases h
  nd _ := .nil
  ph _ := trivial
  j1 u w hu hw _ hj := by have := hw.1; have hj : 0 = w + 1 := hj; omega
  jb _ _ := by show (0 : Int) ≤ _; omega
  c4 _ _ _ h := by cases h
end
end Go.Proofs.YtclaldommncdbaaGreat
