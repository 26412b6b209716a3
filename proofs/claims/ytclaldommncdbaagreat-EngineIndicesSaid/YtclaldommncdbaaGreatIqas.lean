/- The cells of an engine's memory by kinds: what each may hold; what the places of the layout are. What a step leaves alone: levels and Next; the machines that run none inside. The keys of the injector: what their low bits are. Raises; the machines that run others inside, up to Drain. The indices of the deques and the injector's size are left alone by the machines that have nothing to do with them. Run, a worker, the client: what a step does with levels, Next and the events; who publishes a task. A worker and the client: what a step does with levels, Next and the events. -/
import Derived.Test.YtclaldommncdbaaGreatIqar
set_option linter.all false
namespace Go.Proofs.YtclaldommncdbaaGreat
section
open Go Go.RowKit
set_option maxRecDepth 100000
variable [Tb]
theorem aeF {x : Int} (h : 0 ≤ x ∧ x ≤ 1000000000000) : wu x = x := by
  show IntKind.u64.wrap x = x
  simp [IntKind.wrap, IntKind.signed, IntKind.bits, IntKind.min, IntKind.max]
  omega
def ckC (c : Cfg) (a : Int) : Int :=
  if a < 0 then 9 else if a = 0 then 0 else if a < 4 then 1 else if a < 4 + c.heap then 2 else if a < (aaz c).queues then 3
  else if a < (aaz c).table then (if (a - (aaz c).queues) % (2 + c.deque) < 2 then 4 else 5)
  else if (a - (aaz c).table) % 5 = 1 then 6 else 7
structure CellOk (c : Cfg) (a x : Int) : Prop where
  p : 0 ≤ x
  s : ckC c a = 2 → anz x 65535 < c.tasks
  r : ckC c a = 5 → x < c.tasks
  l : ckC c a = 6 → x < c.levels
def Fr (c : Cfg) (a : Int) : Prop := ckC c a ≠ 0 ∧ ckC c a ≠ 2 ∧ ckC c a ≠ 5 ∧ ckC c a ≠ 6
theorem Fr.ok {c : Cfg} {a x : Int} (h : Fr c a) (hx : 0 ≤ x) : CellOk c a x := ⟨hx, fun k => absurd k h.2.1, fun k => absurd k h.2.2.1, fun k => absurd k h.2.2.2⟩
theorem ape {c : Cfg} {a k : Int} (h : ckC c a = k) (hk : k = 1 ∨ k = 3 ∨ k = 4 ∨ k = 7 ∨ k = 9) : Fr c a := by
  unfold Fr; rw [h]; omega
section
variable {c : Cfg}
theorem DecOk.rg (h : DecOk c) : (0 ≤ c.workers * c.levels ∧ c.workers * c.levels ≤ 16) ∧ (0 ≤ c.workers * c.levels * (2 + c.deque) ∧ c.workers * c.levels * (2 + c.deque) ≤ 96) := by
  have h1 := h.w
  have h2 := h.l
  have h3 := h.q
  have e1 := ayM (a := c.workers) (b := c.levels) (A := 4) (B := 4) (by omega) (by omega) (by omega) (by omega)
  have e2 := ayM (a := c.workers * c.levels) (b := 2 + c.deque) (A := 16) (B := 6) e1.1 (by omega) (by omega) (by omega)
  omega
theorem ag7 : ckC c (-1) = 9 := by unfold ckC; rw [if_pos (by omega)]
theorem agA (h : DecOk c) : 4 + c.heap ≤ (aaz c).queues ∧ (aaz c).queues ≤ (aaz c).table ∧ (aaz c).table ≤ 200 ∧ (aaz c).table = (aaz c).queues + c.workers * c.levels * (2 + c.deque) := by
  have h1 := h.w
  have h2 := h.l
  have h3 := h.q
  have h4 := h.h
  have h5 := h.k
  have e := h.rg
  refine ⟨?_, ?_, ?_, ?_⟩ <;> show _ <;> unfold aaz <;> simp only <;> omega
theorem anu (h : DecOk c) {a : Int} (ha : 1 ≤ a ∧ a ≤ 3) : ckC c a = 1 := by
  unfold ckC; rw [if_neg (by omega), if_neg (by omega), if_pos (by omega)]
theorem ax7 (h : DecOk c) {t f : Int} (ht : 0 ≤ t) (hf : 0 ≤ f ∧ f < 5) : ckC c ((aaz c).table + f + t * 5) = if f = 1 then 6 else 7 := by
  have e := agA h
  have h4 := h.h
  unfold ckC
  rw [if_neg (by omega), if_neg (by omega), if_neg (by omega), if_neg (by omega), if_neg (by omega), if_neg (by omega)]
  by_cases hf1 : f = 1
  · rw [if_pos (by omega), if_pos hf1]
  · rw [if_neg (by omega), if_neg hf1]
theorem ahN (h : DecOk c) {t f : Int} (hf : 0 ≤ f ∧ f < 5) : ahc (aaz c) t f = if 0 ≤ t ∧ t < c.tasks then (aaz c).table + f + t * 5 else -1 := by
  have e := agA h
  have h4 := h.t
  have h5 := h.h
  have h6 := h.rg
  unfold ahc atP
  have e1 : (aaz c).tasks = c.tasks := rfl
  rw [e1]
  by_cases h1 : t < 0
  · rw [if_pos h1, if_neg (by omega)]
  rw [if_neg h1]
  by_cases h2 : c.tasks ≤ t
  · rw [if_pos h2, if_neg (by omega)]
  rw [if_neg h2, if_pos (by omega), aaW (x := (aaz c).table + f) (aaC (by omega)), aaW (x := t * 5) (aaC (by omega)), aaW (aaC (by omega))]
theorem aq2 (h : DecOk c) {t f : Int} (hf : 0 ≤ f ∧ f < 5) : ckC c (ahc (aaz c) t f) = if 0 ≤ t ∧ t < c.tasks then (if f = 1 then 6 else 7) else 9 := by
  rw [ahN h hf]
  split
  · rename_i h1; rw [ax7 h h1.1 hf]
  · rw [ag7]
theorem aqR (h : DecOk c) {t f : Int} (hf : 0 ≤ f ∧ f < 5) (hf1 : f ≠ 1) : Fr c (ahc (aaz c) t f) := by
  refine ape rfl ?_
  rw [aq2 h hf, if_neg hf1]
  split <;> omega
theorem agq (h : DecOk c) {t : Int} : Fr c (acT (aaz c) t) := aqR h (by omega) (by omega)
theorem aqS (h : DecOk c) {t : Int} : Fr c (agQ (aaz c) t) := aqR h (by omega) (by omega)
theorem aqQ (h : DecOk c) {t : Int} : Fr c (aii (aaz c) t) := aqR h (by omega) (by omega)
theorem ano (h : DecOk c) {t : Int} : Fr c (akD (aaz c) t) := aqR h (by omega) (by omega)
theorem aoD (h : DecOk c) {a : Int} (ha : 1 ≤ a ∧ a ≤ 3) : Fr c a := ape (anu h ha) (by omega)
theorem aFd {i n a w : Int} (hn : n ≤ 1000) (ha : 0 ≤ a ∧ a ≤ 1000) (hw : w = 1) : atP i n a w = if 0 ≤ i ∧ i < n then a + i else -1 := by
  subst hw
  unfold atP
  by_cases h1 : i < 0
  · rw [if_pos h1, if_neg (by omega)]
  rw [if_neg h1]
  by_cases h2 : n ≤ i
  · rw [if_pos h2, if_neg (by omega)]
  rw [if_neg h2, if_pos (by omega), Int.mul_one, aaW (x := i) (aaC (by omega)), aaW (aaC (by omega))]
theorem aoL (h : DecOk c) {a : Int} (ha : 4 + c.heap ≤ a ∧ a < (aaz c).queues) : ckC c a = 3 := by
  have h4 := h.h
  unfold ckC
  rw [if_neg (by omega), if_neg (by omega), if_neg (by omega), if_neg (by omega), if_pos (by omega)]
theorem akU : (aaz c).queues = 4 + c.heap + c.classes + c.workers + c.workers := rfl
theorem avD (h : DecOk c) {w : Int} : ckC c (agL (aaz c) w) = 3 ∨ ckC c (agL (aaz c) w) = 9 := by
  have h1 := h.w
  have h4 := h.h
  have h5 := h.k
  unfold agL
  show ckC c (atP w c.workers (4 + c.heap + c.classes) 1) = 3 ∨ ckC c (atP w c.workers (4 + c.heap + c.classes) 1) = 9
  rw [aFd (show c.workers ≤ 1000 by omega) (show 0 ≤ 4 + c.heap + c.classes ∧ 4 + c.heap + c.classes ≤ 1000 by omega) rfl]
  split
  · rename_i h'
    have h' : 0 ≤ w ∧ w < c.workers := h'
    refine .inl (aoL h ?_)
    show 4 + c.heap ≤ 4 + c.heap + c.classes + w ∧ 4 + c.heap + c.classes + w < _
    rw [akU]; omega
  · exact .inr ag7
theorem az3 (h : DecOk c) {w : Int} : Fr c (agL (aaz c) w) := ape rfl (by have := avD h (w := w); omega)
theorem alD (h : DecOk c) {w : Int} : ckC c (aaP (aaz c) w) = 3 ∨ ckC c (aaP (aaz c) w) = 9 := by
  have h1 := h.w
  have h4 := h.h
  have h5 := h.k
  unfold aaP
  show ckC c (atP w c.workers (4 + c.heap + c.classes + c.workers) 1) = 3 ∨ ckC c (atP w c.workers (4 + c.heap + c.classes + c.workers) 1) = 9
  rw [aFd (show c.workers ≤ 1000 by omega) (show 0 ≤ 4 + c.heap + c.classes + c.workers ∧ 4 + c.heap + c.classes + c.workers ≤ 1000 by omega) rfl]
  split
  · rename_i h'
    have h' : 0 ≤ w ∧ w < c.workers := h'
    refine .inl (aoL h ?_)
    show 4 + c.heap ≤ 4 + c.heap + c.classes + c.workers + w ∧ 4 + c.heap + c.classes + c.workers + w < _
    rw [akU]; omega
  · exact .inr ag7
theorem aoE (h : DecOk c) {w : Int} : Fr c (aaP (aaz c) w) := ape rfl (by have := alD h (w := w); omega)
theorem aoT (h : DecOk c) {w : Int} : ckC c (ahh (aaz c) w) = 3 ∨ ckC c (ahh (aaz c) w) = 9 := by
  have h1 := h.w
  have h4 := h.h
  have h5 := h.k
  unfold ahh
  show ckC c (atP w c.classes (4 + c.heap) 1) = 3 ∨ ckC c (atP w c.classes (4 + c.heap) 1) = 9
  rw [aFd (show c.classes ≤ 1000 by omega) (show 0 ≤ 4 + c.heap ∧ 4 + c.heap ≤ 1000 by omega) rfl]
  split
  · rename_i h'
    have h' : 0 ≤ w ∧ w < c.classes := h'
    refine .inl (aoL h ?_)
    show 4 + c.heap ≤ 4 + c.heap + w ∧ 4 + c.heap + w < _
    rw [akU]; omega
  · exact .inr ag7
theorem ans (h : DecOk c) {i : Int} : ckC c (aeQ (aaz c) i) = 2 ∨ ckC c (aeQ (aaz c) i) = 9 := by
  have h4 := h.h
  unfold aeQ
  show ckC c (atP i c.heap 4 1) = 2 ∨ ckC c (atP i c.heap 4 1) = 9
  rw [aFd (show c.heap ≤ 1000 by omega) (show (0 : Int) ≤ 4 ∧ (4 : Int) ≤ 1000 by omega) rfl]
  split
  · rename_i h'
    have h' : 0 ≤ i ∧ i < c.heap := h'
    refine .inl ?_
    unfold ckC
    rw [if_neg (by omega), if_neg (by omega), if_neg (by omega), if_pos (by omega)]
  · exact .inr ag7
theorem aCd (h : DecOk c) {i x : Int} (h1 : 0 ≤ x) (h2 : anz x 65535 < c.tasks) : CellOk c (aeQ (aaz c) i) x := by
  have e := ans h (i := i)
  exact ⟨h1, fun _ => h2, fun k => by omega, fun k => by omega⟩
def bq (c : Cfg) (k : Int) : QV := ⟨(aaz c).queues + k * (2 + c.deque), (aaz c).queues + k * (2 + c.deque) + 1, (aaz c).queues + k * (2 + c.deque) + 2, c.deque⟩
theorem aGc {i n a w : Int} (hn : n ≤ 10) (ha : 0 ≤ a ∧ a ≤ 1000) (hw : 0 ≤ w ∧ w ≤ 100) : atP i n a w = if 0 ≤ i ∧ i < n then a + i * w else -1 := by
  unfold atP
  by_cases h1 : i < 0
  · rw [if_pos h1, if_neg (by omega)]
  rw [if_neg h1]
  by_cases h2 : n ≤ i
  · rw [if_pos h2, if_neg (by omega)]
  have h3 := ayM (a := i) (b := w) (A := 10) (B := 100) (by omega) (by omega) (by omega) (by omega)
  rw [if_neg h2, if_pos (by omega), aaW (x := i * w) (aaC (by omega)), aaW (aaC (by omega))]
theorem agF (h : DecOk c) (w v : Int) : (¬ ((0 ≤ w ∧ w < c.workers) ∧ 0 ≤ v ∧ v < c.levels) ∧ aaj (aaz c) w v = ⟨-1, -1, -1, 0⟩) ∨ (((0 ≤ w ∧ w < c.workers) ∧ 0 ≤ v ∧ v < c.levels) ∧ (0 ≤ w * c.levels + v ∧ w * c.levels + v < c.workers * c.levels) ∧ aaj (aaz c) w v = bq c (w * c.levels + v)) := by
  have h1 := h.w
  have h2 := h.l
  have h3 := h.q
  have e := agA h
  have h4 := h.h
  have e1 := ayM (a := c.levels) (b := 2 + c.deque) (A := 4) (B := 6) (by omega) (by omega) (by omega) (by omega)
  have e2 : wi (c.levels * wi (2 + c.deque)) = c.levels * (2 + c.deque) := by
    rw [aaW (x := 2 + c.deque) (aaC (by omega)), aaW (aaC (by omega))]
  have e3 : wi (2 + c.deque) = 2 + c.deque := aaW (aaC (by omega))
  have ea : atP w c.workers (aaz c).queues (c.levels * (2 + c.deque)) = if 0 ≤ w ∧ w < c.workers then (aaz c).queues + w * (c.levels * (2 + c.deque)) else -1 := aGc (by omega) (by omega) (by omega)
  unfold aaj
  show (¬ _ ∧ (if atP w c.workers (aaz c).queues (wi (c.levels * wi (2 + c.deque))) < 0 then _ else if atP v c.levels (atP w c.workers (aaz c).queues (wi (c.levels * wi (2 + c.deque)))) (wi (2 + c.deque)) < 0 then _
    else QV.mk (atP v c.levels (atP w c.workers (aaz c).queues (wi (c.levels * wi (2 + c.deque)))) (wi (2 + c.deque))) (wi (atP v c.levels (atP w c.workers (aaz c).queues (wi (c.levels * wi (2 + c.deque)))) (wi (2 + c.deque)) + 1)) (wi (atP v c.levels (atP w c.workers (aaz c).queues (wi (c.levels * wi (2 + c.deque)))) (wi (2 + c.deque)) + 2)) c.deque) = _) ∨ (_ ∧ _ ∧ (if atP w c.workers (aaz c).queues (wi (c.levels * wi (2 + c.deque))) < 0 then _ else if atP v c.levels (atP w c.workers (aaz c).queues (wi (c.levels * wi (2 + c.deque)))) (wi (2 + c.deque)) < 0 then _
    else QV.mk (atP v c.levels (atP w c.workers (aaz c).queues (wi (c.levels * wi (2 + c.deque)))) (wi (2 + c.deque))) (wi (atP v c.levels (atP w c.workers (aaz c).queues (wi (c.levels * wi (2 + c.deque)))) (wi (2 + c.deque)) + 1)) (wi (atP v c.levels (atP w c.workers (aaz c).queues (wi (c.levels * wi (2 + c.deque)))) (wi (2 + c.deque)) + 2)) c.deque) = _)
  rw [e2, e3, ea]
  by_cases hw : 0 ≤ w ∧ w < c.workers
  · rw [if_pos hw]
    have e4 := ayM (a := w) (b := c.levels * (2 + c.deque)) (A := 4) (B := 24) (by omega) (by omega) (by omega) (by omega)
    have eb : atP v c.levels ((aaz c).queues + w * (c.levels * (2 + c.deque))) (2 + c.deque) = if 0 ≤ v ∧ v < c.levels then (aaz c).queues + w * (c.levels * (2 + c.deque)) + v * (2 + c.deque) else -1 := aGc (by omega) (by omega) (by omega)
    rw [if_neg (by omega), eb]
    by_cases hv : 0 ≤ v ∧ v < c.levels
    · rw [if_pos hv]
      have e5 := ayM (a := v) (b := 2 + c.deque) (A := 4) (B := 6) (by omega) (by omega) (by omega) (by omega)
      have e6 := ayM (a := w) (b := c.levels) (A := 4) (B := 4) (by omega) (by omega) (by omega) (by omega)
      have e7 : (w * c.levels + v) * (2 + c.deque) = w * (c.levels * (2 + c.deque)) + v * (2 + c.deque) := by rw [Int.add_mul, Int.mul_assoc]
      rw [if_neg (by omega)]
      refine .inr ⟨⟨hw, hv⟩, ⟨by omega, ?_⟩, ?_⟩
      · have : c.levels = 1 ∨ c.levels = 2 ∨ c.levels = 3 ∨ c.levels = 4 := by omega
        rcases this with e | e | e | e <;> rw [e] at hv ⊢ <;> omega
      · unfold bq
        rw [e7, aaW (aaC (by omega)), aaW (aaC (by omega)), ← Int.add_assoc]
    · rw [if_neg hv, if_pos (by omega)]; exact .inl ⟨fun h => hv h.2, rfl⟩
  · rw [if_neg hw, if_pos (by omega)]; exact .inl ⟨fun h => hw h.1, rfl⟩
theorem ahP (h : DecOk c) (w v : Int) : aaj (aaz c) w v = ⟨-1, -1, -1, 0⟩ ∨ ∃ k, 0 ≤ k ∧ k < c.workers * c.levels ∧ aaj (aaz c) w v = bq c k := by
  rcases agF h w v with ⟨_, e⟩ | ⟨_, ⟨e1, e2⟩, e⟩
  · exact .inl e
  · exact .inr ⟨_, e1, e2, e⟩
theorem aoM (h : DecOk c) {k j : Int} (hk : 0 ≤ k ∧ k < c.workers * c.levels) (hj : 0 ≤ j ∧ j < 2 + c.deque) : ckC c ((aaz c).queues + k * (2 + c.deque) + j) = if j < 2 then 4 else 5 := by
  have e := agA h
  have h4 := h.h
  have h3 := h.q
  have e1 : (k + 1) * (2 + c.deque) ≤ c.workers * c.levels * (2 + c.deque) := Int.mul_le_mul_of_nonneg_right (by omega) (by omega)
  have e2 : (k + 1) * (2 + c.deque) = k * (2 + c.deque) + (2 + c.deque) := by rw [Int.add_mul, Int.one_mul]
  have e3 : 0 ≤ k * (2 + c.deque) := Int.mul_nonneg hk.1 (by omega)
  have e4 : ((aaz c).queues + k * (2 + c.deque) + j - (aaz c).queues) % (2 + c.deque) = j := by
    have : (aaz c).queues + k * (2 + c.deque) + j - (aaz c).queues = j + k * (2 + c.deque) := by omega
    rw [this, Int.add_mul_emod_self_right, Int.emod_eq_of_lt hj.1 hj.2]
  unfold ckC
  rw [if_neg (by omega), if_neg (by omega), if_neg (by omega), if_neg (by omega), if_neg (by omega), if_pos (by omega), e4]
theorem aAO (h : DecOk c) (w v : Int) : Fr c (aaj (aaz c) w v).top := by
  have h3 := h.q
  rcases ahP h w v with e | ⟨k, h1, h2, e⟩ <;> rw [e]
  · exact ape ag7 (by omega)
  · have := aoM h ⟨h1, h2⟩ (j := 0) (by omega)
    rw [Int.add_zero, if_pos (by omega)] at this
    exact ape this (by omega)
theorem alu (h : DecOk c) (w v : Int) : Fr c (aaj (aaz c) w v).bottom := by
  have h3 := h.q
  rcases ahP h w v with e | ⟨k, h1, h2, e⟩ <;> rw [e]
  · exact ape ag7 (by omega)
  · have := aoM h ⟨h1, h2⟩ (j := 1) (by omega)
    rw [if_pos (by omega)] at this
    exact ape this (by omega)
theorem ant (h : DecOk c) (w v : Int) {b : Int} (hb : 0 ≤ b) : ckC c (aeD (aaj (aaz c) w v) b) = 5 ∨ ckC c (aeD (aaj (aaz c) w v) b) = 9 := by
  have h3 := h.q
  rcases ahP h w v with e | ⟨k, h1, h2, e⟩ <;> rw [e]
  · refine .inr ?_
    unfold aeD
    rw [if_pos (by show (0 : Int) < 1; omega), ag7]
  · refine .inl ?_
    have e0 := agA h
    have h4 := h.h
    have h5 := h.rg
    have e1 := awq (a := b) (b := c.deque) (by omega) hb
    have e2 : k * (2 + c.deque) ≤ c.workers * c.levels * (2 + c.deque) := Int.mul_le_mul_of_nonneg_right (by omega) (by omega)
    have e3 : 0 ≤ k * (2 + c.deque) := Int.mul_nonneg h1 (by omega)
    unfold aeD bq
    simp only
    rw [if_neg (by omega), aeF (x := c.deque) (by omega), aaW (x := Int.tmod b c.deque) (aaC (by omega)), aaW (aaC (by omega))]
    have := aoM h ⟨h1, h2⟩ (j := 2 + Int.tmod b c.deque) (by omega)
    rw [if_neg (by omega), ← Int.add_assoc] at this
    exact this
theorem aCe (h : DecOk c) (w v : Int) {b x : Int} (hb : 0 ≤ b) (hx : 0 ≤ x ∧ x < c.tasks) : CellOk c (aeD (aaj (aaz c) w v) b) x := by
  have e := ant h w v hb
  exact ⟨hx.1, fun k => by omega, fun k => hx.2, fun k => by omega⟩
end
end
section
open Go Go.RowKit
set_option maxRecDepth 100000
variable [Tb]
theorem aum (x : Int) : IntKind.u64.wrap x = x % 18446744073709551616 := by
  simp [IntKind.wrap, IntKind.signed, IntKind.bits]
theorem ag1 (a : Int) : 0 ≤ wu a := (aDn a).1
theorem au6 (a b : Int) : 0 ≤ orU a b := ag1 _
theorem ams (a b : Int) : 0 ≤ anz a b := ag1 _
theorem ahx {e : EnvP} {k a v b : Int} : (e.pt k a v).gt b = if b = a ∧ 0 ≤ a ∧ a < (e.m.cells.length : Int) then v else e.gt b := by
  show (e.m.pt k a v).gt b = if _ then v else e.m.gt b
  unfold MemV.pt
  by_cases ha : 0 ≤ a ∧ a < (e.m.cells.length : Int)
  · rw [if_pos ha]
    unfold MemV.gt
    simp only [List.length_set]
    by_cases hb : 0 ≤ b ∧ b < (e.m.cells.length : Int)
    · rw [if_pos hb, if_pos hb]
      by_cases hab : b = a
      · rw [if_pos ⟨hab, ha⟩, hab, aji ha]
      · rw [if_neg (fun h => hab h.1)]
        show atL _ (e.m.cells.set a.toNat v) b = atL _ e.m.cells b
        unfold atL
        rw [List.getElem?_set_ne (by omega)]
    · rw [if_neg hb, if_neg hb, if_neg (fun (h : b = a ∧ _) => hb (by rw [h.1]; exact h.2))]
  · rw [if_neg ha, if_neg (fun h => ha h.2)]
theorem alr {e : EnvP} {a b : Int} : (e.lk a).gt b = e.gt b := by
  have : (e.pt 1 a (e.gt a)).gt b = e.gt b := by
    rw [ahx]
    split
    · rename_i h; rw [h.1]
    · rfl
  exact this
structure MI (c : Cfg) (e : EnvP) : Prop where
  d : DecOk c
  l : e.l = aaz c
  cc : e.c = c
  ok : ∀ a, CellOk c a (e.gt a)
def Pl (c : Cfg) (x : Ev) : Prop := (0 ≤ x.task ∧ x.task < c.tasks) ∧ x.kind ≠ 1 ∧ x.kind ≠ 3 ∧ x.kind ≠ 11 ∧ x.kind ≠ 12
abbrev Lv (c : Cfg) (e : EnvP) (t : Int) : Int := e.gt (abM (aaz c) t)
structure Qt (c : Cfg) (e e' : EnvP) : Prop where
  i : MI c e'
  lv : ∀ t, Lv c e' t = Lv c e t
  nx : e'.gt 0 = e.gt 0
  ev : ∃ l, e'.evs = e.evs ++ l ∧ ∀ x ∈ l, Pl c x
section
variable {c : Cfg} {e e' : EnvP} {a v k o t : Int}
theorem MI.p (h : MI c e) (a : Int) : 0 ≤ e.gt a := (h.ok a).p
theorem MI.lk (h : MI c e) : MI c (e.lk a) := ⟨h.d, h.l, h.cc, fun b => by rw [alr]; exact h.ok b⟩
theorem MI.pt (h : MI c e) (hv : CellOk c a v) : MI c (e.pt k a v) := ⟨h.d, h.l, h.cc, fun b => by
  rw [ahx]
  split
  · rename_i q; rw [q.1]; exact hv
  · exact h.ok b⟩
theorem Qt.refl (h : MI c e) : Qt c e e := ⟨h, fun _ => rfl, rfl, [], by simp, fun x hx => by cases hx⟩
theorem Qt.lk (h : MI c e) : Qt c e (e.lk a) := ⟨h.lk, fun _ => alr, alr, [], by show e.evs = _; simp, fun x hx => by cases hx⟩
theorem agM (h : DecOk c) : ckC c (abM (aaz c) t) = 6 ∨ (ckC c (abM (aaz c) t) = 9 ∧ abM (aaz c) t = -1) := by
  have e1 := aq2 h (t := t) (f := 1) (by omega)
  have e2 := ahN h (t := t) (f := 1) (by omega)
  show ckC c (ahc (aaz c) t 1) = 6 ∨ (ckC c (ahc (aaz c) t 1) = 9 ∧ ahc (aaz c) t 1 = -1)
  by_cases ht : 0 ≤ t ∧ t < c.tasks
  · rw [e1, if_pos ht, if_pos rfl]; exact .inl rfl
  · rw [e1, e2, if_neg ht, if_neg ht]; exact .inr ⟨rfl, rfl⟩
theorem agZ : ckC c 0 = 0 := by unfold ckC; rw [if_neg (by omega), if_pos rfl]
theorem Qt.wr (h : MI c e) (h0 : ckC c a ≠ 0) (h6 : ckC c a ≠ 6) (hv : CellOk c a v) : Qt c e (e.pt k a v) := by
  refine ⟨h.pt hv, fun t => ?_, ?_, [], by show e.evs = _; simp, fun x hx => by cases hx⟩
  · show (e.pt k a v).gt _ = e.gt _
    rw [ahx]
    split
    · rename_i q
      rcases agM h.d (t := t) with h1 | ⟨_, h1⟩
      · rw [q.1] at h1; exact absurd h1 h6
      · omega
    · rfl
  · rw [ahx]
    split
    · rename_i q
      rw [← q.1] at h0
      exact absurd agZ h0
    · rfl
theorem Qt.fr (h : MI c e) (ha : Fr c a) (hv : 0 ≤ v) : Qt c e (e.pt k a v) := .wr h ha.1 ha.2.2.2 (ha.ok hv)
theorem Qt.cas (h : MI c e) (ha : Fr c a) (hv : 0 ≤ v) : Qt c e (e.cas a o v) := by
  refine Qt.fr h ha ?_
  show 0 ≤ if _ then v else e.m.gt a
  split
  · exact hv
  · exact h.p a
theorem Qt.ring (h : MI c e) (w u : Int) {b : Int} (hb : 0 ≤ b) (hv : 0 ≤ v ∧ v < c.tasks) : Qt c e (e.pt k (aeD (aaj (aaz c) w u) b) v) := by
  have := ant h.d w u hb
  exact .wr h (by omega) (by omega) (aCe h.d w u hb hv)
def adQ (c : Cfg) (k : Int) : Prop := 0 ≤ k ∧ anz k 65535 < c.tasks
theorem Qt.slot (h : MI c e) {i : Int} (hv : adQ c v) : Qt c e (e.pt k (aeQ (aaz c) i) v) := by
  have := ans h.d (i := i)
  exact .wr h (by omega) (by omega) (aCd h.d hv.1 hv.2)
theorem Qt.em {w l : Int} (h : Qt c e e') (ht : 0 ≤ t ∧ t < c.tasks) (hk : k ≠ 1 ∧ k ≠ 3 ∧ k ≠ 11 ∧ k ≠ 12) : Qt c e (e'.em k w t o l) := by
  obtain ⟨m, hm, hp⟩ := h.ev
  refine ⟨⟨h.i.d, h.i.l, h.i.cc, h.i.ok⟩, h.lv, h.nx, m ++ [⟨k, w, t, o, l⟩], ?_, fun x hx => ?_⟩
  · show e'.evs ++ [_] = _
    rw [hm, List.append_assoc]
  · rcases List.mem_append.1 hx with hx | hx
    · exact hp x hx
    · rw [List.mem_singleton.1 hx]
      exact ⟨ht, hk⟩
theorem Qt.pr {r : RecP} (h : Qt c e e') : Qt c e (e'.pr t r) := ⟨⟨h.i.d, h.i.l, h.i.cc, h.i.ok⟩, h.lv, h.nx, h.ev⟩
theorem atY (h : MI c e) (w u : Int) {b : Int} (hb : 0 ≤ b) : 0 ≤ wi (e.gt (aeD (aaj (aaz c) w u) b)) ∧ wi (e.gt (aeD (aaj (aaz c) w u) b)) < c.tasks := by
  have h1 := h.ok (aeD (aaj (aaz c) w u) b)
  have h2 := h.d.t
  have h3 : e.gt (aeD (aaj (aaz c) w u) b) < c.tasks := by
    rcases ant h.d w u hb with h4 | h4
    · exact h1.r h4
    · have : e.gt (aeD (aaj (aaz c) w u) b) = 0 := by
        show e.m.gt _ = 0
        unfold MemV.gt
        rw [if_neg]
        intro h5
        have h6 : ckC c (aeD (aaj (aaz c) w u) b) ≠ 9 := by
          unfold ckC; repeat' split
          all_goals omega
        exact h6 h4
      omega
  have h4 := h1.p
  rw [aaW (aaC (by omega))]
  exact ⟨h4, h3⟩
theorem ah0 (h : MI c e) (i : Int) : adQ c (e.gt (aeQ (aaz c) i)) := by
  have h1 := h.ok (aeQ (aaz c) i)
  have h2 := h.d.t
  refine ⟨h1.p, ?_⟩
  rcases ans h.d (i := i) with h4 | h4
  · exact h1.s h4
  · have : e.gt (aeQ (aaz c) i) = 0 := by
      show e.m.gt _ = 0
      unfold MemV.gt
      rw [if_neg]
      intro h5
      have h6 : ckC c (aeQ (aaz c) i) ≠ 9 := by
        unfold ckC; repeat' split
        all_goals omega
      exact h6 h4
    rw [this]
    show anz 0 65535 < _
    have : anz 0 65535 = 0 := by decide
    omega
theorem avm (h : MI c e) (t : Int) : 0 ≤ Lv c e t ∧ Lv c e t < c.levels := by
  have h1 := h.ok (abM (aaz c) t)
  have h2 := h.d.l
  refine ⟨h1.p, ?_⟩
  rcases agM h.d (t := t) with h4 | ⟨_, h4⟩
  · exact h1.l h4
  · show e.m.gt (abM (aaz c) t) < _
    rw [h4]
    unfold MemV.gt
    rw [if_neg (by omega)]
    omega
end
def Rs.Q {σ : Type} (P : σ → Prop) (F : Int → Int → Prop) : Rs σ → Prop
  | .go s => P s
  | .fin c v => F c v
theorem Rs.Q.ite {σ : Type} {P : σ → Prop} {F : Int → Int → Prop} {p : Prop} [Decidable p] {a b : Rs σ} (h1 : p → a.Q P F) (h2 : ¬ p → b.Q P F) : (if p then a else b).Q P F := by
  split
  · exact h1 ‹_›
  · exact h2 ‹_›
def TOk (c : Cfg) (t : Int) : Prop := 0 ≤ t ∧ t < c.tasks
def ajl : OPushS → Prop
  | .l1 => True
  | .l2 b => 0 ≤ b
  | .l3 b => 0 ≤ b
  | .l4 b => 0 ≤ b
def avL : OPopS → Prop
  | .l1 => True
  | .l2 b => 0 ≤ b
  | .l3 b _ => 0 ≤ b
  | .l4 b _ => 0 ≤ b
  | .l5 b _ => 0 ≤ b
  | .l6 b _ => 0 ≤ b
  | .l7 b _ => 0 ≤ b
  | .l8 b _ => 0 ≤ b
  | .l9 b _ => 0 ≤ b
def ars (c : Cfg) : StealS → Prop
  | .l1 => True
  | .l2 t => 0 ≤ t
  | .l3 t => 0 ≤ t
  | .l4 _ v => TOk c (wi v)
def anB (c : Cfg) : InsertS → Prop
  | .l1 => True
  | .l2 _ => True
  | .l3 _ _ k x => adQ c k ∧ adQ c x
  | .l4 _ _ k x => adQ c k ∧ adQ c x
  | .l5 _ _ k x => adQ c k ∧ adQ c x
  | .l6 _ _ k x => adQ c k ∧ adQ c x
def alI (c : Cfg) : RemoveS → Prop
  | .l1 => True
  | .l2 _ => True
  | .l3 _ x => adQ c x
  | .l4 _ x y => adQ c x ∧ adQ c y
  | .l5 _ _ _ x y z => adQ c x ∧ adQ c y ∧ adQ c z
  | .l6 _ _ _ x y z => adQ c x ∧ adQ c y ∧ adQ c z
  | .l7 _ _ _ x y z => adQ c x ∧ adQ c y ∧ adQ c z
  | .l8 _ _ _ x y z => adQ c x ∧ adQ c y ∧ adQ c z
section
variable {c : Cfg} {e : EnvP} {w v x : Int}
theorem aB6 (h : MI c e) (hx : TOk c x) (s : OPushS) (hs : ajl s) : Qt c e (adX (aaj (aaz c) w v) x e s).2 ∧ (adX (aaj (aaz c) w v) x e s).1.Q ajl (fun _ _ => True) := by
  have ht := h.d.t
  cases s with
  | l1 => exact ⟨.lk h, h.p _⟩
  | l2 b => exact ⟨.lk h, .ite (fun _ => trivial) fun _ => hs⟩
  | l3 b => exact ⟨.ring h _ _ hs (by rw [aeF (by unfold TOk at hx; omega)]; exact hx), hs⟩
  | l4 b => exact ⟨.fr h (alu h.d _ _) (ag1 _), trivial⟩
theorem aD0 (h : MI c e) (s : OPopS) (hs : avL s) : Qt c e (ajP (aaj (aaz c) w v) e s).2 ∧ (ajP (aaj (aaz c) w v) e s).1.Q avL (fun r x => r = 1 → TOk c x) := by
  cases s with
  | l1 => exact ⟨.lk h, h.p _⟩
  | l2 b => exact ⟨.lk h, .ite (fun _ => fun h => absurd h (by omega)) fun _ => hs⟩
  | l3 b t => exact ⟨.fr h (alu h.d _ _) (ag1 _), hs⟩
  | l4 b t => exact ⟨.lk h, .ite (fun _ => hs) fun _ => .ite (fun _ => hs) fun _ => hs⟩
  | l5 b t => exact ⟨.lk h, fun _ => atY h _ _ (ag1 _)⟩
  | l6 b t => exact ⟨.cas h (aAO h.d _ _) (ag1 _), .ite (fun _ => hs) fun _ => hs⟩
  | l7 b t => exact ⟨.fr h (alu h.d _ _) hs, hs⟩
  | l8 b t => exact ⟨.lk h, fun _ => atY h _ _ (ag1 _)⟩
  | l9 b t => exact ⟨.fr h (alu h.d _ _) hs, fun h => absurd h (by omega)⟩
theorem aBj (h : MI c e) (s : StealS) (hs : ars c s) : Qt c e (aec (aaj (aaz c) w v) e s).2 ∧ (aec (aaj (aaz c) w v) e s).1.Q (ars c) (fun r x => r = 1 → TOk c x) := by
  cases s with
  | l1 => exact ⟨.lk h, h.p _⟩
  | l2 b => exact ⟨.lk h, .ite (fun _ => fun h => absurd h (by omega)) fun _ => hs⟩
  | l3 t => exact ⟨.lk h, atY h _ _ hs⟩
  | l4 t u => exact ⟨.cas h (aAO h.d _ _) (ag1 _), .ite (fun _ => fun _ => hs) fun _ => fun h => absurd h (by omega)⟩
theorem awU {a b : Int} (h : MI c e) (s : ResetS) : Qt c e (agc (aaP (aaz c) a) b (aaj (aaz c) w v) e s).2 := by
  cases s with
  | l1 => exact .fr h (aoE h.d) (ams _ _)
  | l2 => exact .lk h
  | l3 x => exact .lk h
  | l4 x => exact .fr h (aoE h.d) (au6 _ _)
theorem aFi {a b : Int} (h : MI c e) : Qt c e (aC6 (aaP (aaz c) a) b e) := .fr h (aoE h.d) (au6 _ _)
theorem akr {t : Int} (h : MI c e) (ht : TOk c t) : Qt c e (ahE w t e) := by
  unfold ahE
  rw [h.l]
  split
  · split
    · exact (Qt.cas h (agq h.d) (by omega)).em ht (by omega)
    · exact (Qt.cas h (agq h.d) (by omega)).pr.em ht (by omega)
  · exact (Qt.cas h (agq h.d) (by omega)).em ht (by omega)
theorem ass {o : Int} (h : MI c e) : Qt c e (atM o e) := .cas h (aoD h.d (by omega)) (ag1 _)
theorem axL (h : MI c e) : Qt c e (asA e) := .fr h (aoD h.d (by omega)) (by omega)
theorem akC (h : MI c e) : ckC c (aik w e) = 3 ∨ ckC c (aik w e) = 9 := by
  unfold aik
  rw [h.l]
  split
  · exact .inr ag7
  · exact aoT h.d
theorem auo {j : Int} (h : MI c e) : ckC c (amP v j e) = 3 ∨ ckC c (amP v j e) = 9 := by
  unfold amP
  rw [h.l]
  split
  · exact .inr ag7
  · exact aoT h.d
theorem anV (h : MI c e) : Fr c (aik w e) := ape rfl (by have := akC (w := w) h; omega)
theorem ayU {j : Int} (h : MI c e) : Fr c (amP v j e) := ape rfl (by have := auo (v := v) (j := j) h; omega)
theorem TOk.zero (h : DecOk c) : 0 ≤ (0 : Int) ∧ 0 < c.tasks := by have := h.t; omega
theorem aBp (h : MI c e) (s : SleepS) : Qt c e (aga w e s).2 := by
  have hz := TOk.zero h.d
  cases s with
  | l1 => exact .lk h
  | l2 ep => exact .fr h (anV h) (au6 _ _)
  | l3 ep => exact .lk h
  | l4 ep v =>
    simp only [aga]
    split
    · exact .lk h
    · split
      · exact (Qt.lk h).em hz (by omega)
      · exact .lk h
  | l5 ep v s =>
    simp only [aga]
    split
    · exact (Qt.lk h).em hz (by omega)
    · split
      · exact (Qt.lk h).em hz (by omega)
      · exact .lk h
  | l6 _ _ _ => exact .fr h (anV h) (ams _ _)
  | l7 _ _ _ => exact .fr h (anV h) (ams _ _)
theorem arE (h : MI c e) (s : WakeS) : Qt c e (aej w v e s).2 := by
  have hz := TOk.zero h.d
  cases s with
  | l1 j => exact .lk h
  | l2 j x => exact .fr h (ayU h) (ams _ _)
  | l3 j x =>
    show Qt c e ((e.pt 6 (agL e.l x) _).em 18 w 0 x 0)
    rw [h.l]
    exact (Qt.fr h (az3 h.d) (ag1 _)).em hz (by omega)
theorem aBV (h : MI c e) (s : ProbeS) : Qt c e (aj1 w e s).2 := by
  have g : ∀ s i bm, Qt c e (ain w e s i bm).2 := fun s i bm => by
    unfold ain
    split
    · exact .refl h
    · simp only
      split
      · exact .lk h
      · exact .lk h
  cases s with
  | new => exact g _ _ _
  | run s i bm => exact g _ _ _
end
end
section
open Go Go.RowKit
set_option maxRecDepth 100000
variable [Tb]
theorem ala (a : Int) : (BitVec.ofInt 64 a).toNat = (a % 18446744073709551616).toNat := by
  rw [BitVec.toNat_ofInt]; rfl
theorem aun {n : Nat} (h : n < 18446744073709551616) : IntKind.u64.wrap (n : Int) = (n : Int) := by
  rw [aum]; omega
theorem axh (a b : Int) : orU a b = (((a % 18446744073709551616).toNat ||| (b % 18446744073709551616).toNat : Nat) : Int) := by
  show IntKind.u64.wrap ((BitVec.ofInt 64 a ||| BitVec.ofInt 64 b).toNat : Int) = _
  rw [BitVec.toNat_or, ala, ala, aun]
  exact Nat.or_lt_two_pow (n := 64) (by omega) (by omega)
theorem ari (a : Int) : anz a 65535 = (((a % 18446744073709551616).toNat % 65536 : Nat) : Int) := by
  show IntKind.u64.wrap ((BitVec.ofInt 64 a &&& BitVec.ofInt 64 65535).toNat : Int) = _
  have e : ((65535 : Int) % 18446744073709551616).toNat = 2 ^ 16 - 1 := by decide
  rw [BitVec.toNat_and, ala, ala, e, Nat.and_two_pow_sub_one_eq_mod, aun (by omega)]
theorem axj (a b : Int) : (orU a b).toNat % 65536 = ((a % 18446744073709551616).toNat % 65536) ||| ((b % 18446744073709551616).toNat % 65536) := by
  rw [axh, Int.toNat_natCast]
  exact Nat.or_mod_two_pow (n := 16)
theorem axi (a b : Int) : orU a b % 18446744073709551616 = orU a b := by
  have h : (a % 18446744073709551616).toNat ||| (b % 18446744073709551616).toNat < 2 ^ 64 := Nat.or_lt_two_pow (by omega) (by omega)
  rw [axh]
  omega
theorem azx {d a t : Int} (ht : 0 ≤ t ∧ t ≤ 65535) : anz (an9 d a t).1 65535 = t ∨ (an9 d a t).1 = 0 := by
  unfold an9
  by_cases h1 : d < 0
  · rw [if_pos h1]; exact .inr rfl
  rw [if_neg h1]
  by_cases h2 : 16777215 < d
  · rw [if_pos h2]; exact .inr rfl
  rw [if_neg h2]
  by_cases h3 : a < 0
  · rw [if_pos h3]; exact .inr rfl
  rw [if_neg h3]
  by_cases h4 : 16777215 < a
  · rw [if_pos h4]; exact .inr rfl
  rw [if_neg h4, if_neg (by omega), if_neg (by omega)]
  refine .inl ?_
  simp only
  rw [ari, axi, axj, axi, axj]
  have p40 : (2 : Int) ^ min (40 : Int).toNat IntKind.u64.bits = 1099511627776 := by decide
  have p16 : (2 : Int) ^ min (16 : Int).toNat IntKind.u64.bits = 65536 := by decide
  rw [p40, p16, aeF (x := d) (by omega), aeF (x := a) (by omega), aeF (x := t) (by omega)]
  have e1 : ((wu (d * 1099511627776)) % 18446744073709551616).toNat % 65536 = 0 := by
    have : wu (d * 1099511627776) = d * 1099511627776 % 18446744073709551616 := aum _
    rw [this]; omega
  have e2 : ((wu (a * 65536)) % 18446744073709551616).toNat % 65536 = 0 := by
    have : wu (a * 65536) = a * 65536 % 18446744073709551616 := aum _
    rw [this]; omega
  rw [e1, e2]
  simp
  omega
theorem aBY {c : Cfg} (hd : DecOk c) {d a t : Int} (ht : TOk c t) : adQ c (an9 d a t).1 := by
  have h := hd.t
  have h2 : 0 ≤ (an9 d a t).1 := by
    unfold an9
    repeat' split
    all_goals first | exact Int.le_refl 0 | exact au6 _ _
  refine ⟨h2, ?_⟩
  rcases azx (d := d) (a := a) (t := t) (by unfold TOk at ht; omega) with e | e
  · rw [e]; exact ht.2
  · rw [e, ari]; simp; omega
theorem aqF {c : Cfg} (hd : DecOk c) {k : Int} (hk : adQ c k) : TOk c (asw k) := by
  have h := hd.t
  have e : asw k = anz k 65535 := by
    show wi (anz k 65535) = _
    have h1 := ams k 65535
    have h2 := hk.2
    exact aaW (aaC (by omega))
  unfold TOk
  rw [e]
  exact ⟨ams _ _, hk.2⟩
theorem aqE {c : Cfg} (hd : DecOk c) : adQ c 0 := by
  have h := hd.t
  refine ⟨Int.le_refl 0, ?_⟩
  rw [ari]; simp; omega
section
variable {c : Cfg} {e : EnvP} {w x : Int}
theorem auS {n i k x : Int} (h1 : adQ c k) (h2 : adQ c x) : anB c (an6 n i k x) := by
  unfold an6
  split
  · exact ⟨h1, h2⟩
  · exact ⟨h1, h2⟩
theorem avh {d t : Int} (h : MI c e) (ht : TOk c t) (s : InsertS) (hs : anB c s) : Qt c e (acF d t e s).2 ∧ (acF d t e s).1.Q (anB c) (fun _ _ => True) := by
  cases s with
  | l1 => exact ⟨.lk h, .ite (fun _ => trivial) fun _ => trivial⟩
  | l2 n => exact ⟨.fr h (aoD h.d (by omega)) (ag1 _), .ite (fun _ => auS (aBY h.d ht) (aqE h.d)) fun _ => trivial⟩
  | l3 n i k x =>
    unfold acF
    rw [h.l]
    exact ⟨.lk h, .ite (fun _ => ⟨hs.1, ah0 h _⟩) fun _ => ⟨hs.1, ah0 h _⟩⟩
  | l4 n i k x =>
    unfold acF
    rw [h.l]
    exact ⟨.slot h hs.2, auS hs.1 hs.2⟩
  | l5 n i k x =>
    unfold acF
    rw [h.l]
    exact ⟨.slot h hs.1, hs⟩
  | l6 n i k x => exact ⟨.fr h (aoD h.d (by omega)) (ag1 _), trivial⟩
theorem avB {n i d x y z : Int} (h1 : adQ c x) (h2 : adQ c y) (h3 : adQ c z) : alI c (aoQ n i d x y z) := by
  unfold aoQ
  split
  · exact ⟨h1, h2, h3⟩
  · exact ⟨h1, h2, h3⟩
theorem at5 {n i d x y z : Int} (h1 : adQ c x) (h2 : adQ c y) (h3 : adQ c z) : alI c (asI n i d x y z) := by
  unfold asI
  split
  · exact ⟨h1, h2, h3⟩
  · exact ⟨h1, h2, h3⟩
theorem azp (h : MI c e) (s : RemoveS) (hs : alI c s) : Qt c e (ac3 w e s).2 ∧ (ac3 w e s).1.Q (alI c) (fun r x => r ≠ 2 → TOk c x) := by
  cases s with
  | l1 => exact ⟨.lk h, .ite (fun _ => fun h => absurd rfl h) fun _ => trivial⟩
  | l2 n =>
    unfold ac3
    rw [h.l]
    exact ⟨.lk h, ah0 h _⟩
  | l3 n x =>
    unfold ac3
    rw [h.l]
    exact ⟨.lk h, hs, ah0 h _⟩
  | l4 n x y => exact ⟨(Qt.fr h (aoD h.d (by omega)) (ag1 _)).em (aqF h.d hs.1) (by omega), .ite (fun _ => fun _ => aqF h.d hs.1) fun _ => avB hs.1 hs.2 (aqE h.d)⟩
  | l5 n i d x y z =>
    unfold ac3
    rw [h.l]
    exact ⟨.lk h, .ite (fun _ => ⟨hs.1, hs.2.1, ah0 h _⟩) fun _ => at5 hs.1 hs.2.1 (ah0 h _)⟩
  | l6 n i d x y z =>
    unfold ac3
    rw [h.l]
    exact ⟨.lk h, .ite (fun _ => at5 hs.1 hs.2.1 (ah0 h _)) fun _ => at5 hs.1 hs.2.1 hs.2.2⟩
  | l7 n i d x y z =>
    unfold ac3
    rw [h.l]
    exact ⟨.slot h hs.2.2, avB hs.1 hs.2.1 hs.2.2⟩
  | l8 n i d x y z =>
    unfold ac3
    rw [h.l]
    exact ⟨.slot h hs.2.1, fun _ => aqF h.d hs.1⟩
end
end
section
open Go Go.RowKit
set_option maxRecDepth 100000
variable [Tb]
structure Rsd (c : Cfg) (e e' : EnvP) (t v : Int) : Prop where
  i : MI c e'
  tk : TOk c t
  vk : 0 ≤ v ∧ v < c.levels
  up : Lv c e t < v
  now : Lv c e' t = v
  ot : ∀ u, u ≠ t → Lv c e' u = Lv c e u
  nx : e'.gt 0 = e.gt 0
  ev : ∃ k w o l, (k = 11 ∨ k = 12) ∧ e'.evs = e.evs ++ (⟨k, w, t, o, v⟩ :: l) ∧ ∀ x ∈ l, Pl c x
def Rz (c : Cfg) (e e' : EnvP) : Prop := Qt c e e' ∨ ∃ t v, Rsd c e e' t v
section
variable {c : Cfg} {e e' : EnvP} {w v x : Int}
theorem Rsd.em {t v k w u o l : Int} (h : Rsd c e e' t v) (ht : 0 ≤ u ∧ u < c.tasks) (hk : k ≠ 1 ∧ k ≠ 3 ∧ k ≠ 11 ∧ k ≠ 12) : Rsd c e (e'.em k w u o l) t v := by
  obtain ⟨k1, w1, o1, m, h1, hm, hp⟩ := h.ev
  refine ⟨⟨h.i.d, h.i.l, h.i.cc, h.i.ok⟩, h.tk, h.vk, h.up, h.now, h.ot, h.nx, k1, w1, o1, m ++ [⟨k, w, u, o, l⟩], h1, ?_, fun x hx => ?_⟩
  · show e'.evs ++ [_] = _
    rw [hm, List.append_assoc, List.cons_append]
  · rcases List.mem_append.1 hx with hx | hx
    · exact hp x hx
    · rw [List.mem_singleton.1 hx]
      exact ⟨ht, hk⟩
theorem Rz.em {k w u o l : Int} (h : Rz c e e') (ht : 0 ≤ u ∧ u < c.tasks) (hk : k ≠ 1 ∧ k ≠ 3 ∧ k ≠ 11 ∧ k ≠ 12) : Rz c e (e'.em k w u o l) := by
  rcases h with h | ⟨t, v, h⟩
  · exact .inl (h.em ht hk)
  · exact .inr ⟨t, v, h.em ht hk⟩
theorem Rz.i (h : Rz c e e') : MI c e' := by
  rcases h with h | ⟨t, v, h⟩
  · exact h.i
  · exact h.i
theorem Qt.same (h : MI c e) (h1 : ∀ b, e'.gt b = e.gt b) (h2 : e'.l = e.l) (h3 : e'.c = e.c) (h4 : e'.evs = e.evs) : Qt c e e' :=
  ⟨⟨h.d, by rw [h2]; exact h.l, by rw [h3]; exact h.cc, fun a => by rw [h1]; exact h.ok a⟩, fun t => h1 _, h1 _, [], by rw [h4]; simp, fun x hx => by cases hx⟩
theorem ais {a o v b : Int} : (e.cas a o v).gt b = if e.hit a o = true ∧ b = a then v else e.gt b := by
  have h : (e.cas a o v).gt b = (e.pt 3 a (if e.m.gt a = o then v else e.m.gt a)).gt b := rfl
  rw [h, ahx]
  by_cases hr : 0 ≤ a ∧ a < (e.m.cells.length : Int)
  · have hg : e.m.gt a = aeo e.m.cells a := by unfold MemV.gt; rw [if_pos hr]
    by_cases hh : aeo e.m.cells a = o
    · have h1 : e.hit a o = true := by show decide _ = true; rw [decide_eq_true ⟨hr, hh⟩]
      by_cases hb : b = a
      · rw [if_pos (show b = a ∧ 0 ≤ a ∧ a < (e.m.cells.length : Int) from ⟨hb, hr⟩), if_pos (show e.hit a o = true ∧ b = a from ⟨h1, hb⟩), hg, if_pos hh]
      · rw [if_neg (show ¬ (b = a ∧ 0 ≤ a ∧ a < (e.m.cells.length : Int)) from fun h => hb h.1), if_neg (show ¬ (e.hit a o = true ∧ b = a) from fun h => hb h.2)]
    · have h1 : ¬ e.hit a o = true := by
        show ¬ decide _ = true
        rw [decide_eq_true_iff]
        exact fun h => hh h.2
      rw [if_neg (show ¬ (e.hit a o = true ∧ b = a) from fun h => h1 h.1)]
      by_cases hb : b = a
      · rw [if_pos (show b = a ∧ 0 ≤ a ∧ a < (e.m.cells.length : Int) from ⟨hb, hr⟩), hg, if_neg hh, hb]; exact hg.symm
      · rw [if_neg (show ¬ (b = a ∧ 0 ≤ a ∧ a < (e.m.cells.length : Int)) from fun h => hb h.1)]
  · have h1 : ¬ e.hit a o = true := by
      show ¬ decide _ = true
      rw [decide_eq_true_iff]
      exact fun h => hr h.1
    rw [if_neg (show ¬ (e.hit a o = true ∧ b = a) from fun h => h1 h.1), if_neg (show ¬ (b = a ∧ 0 ≤ a ∧ a < (e.m.cells.length : Int)) from fun h => hr h.2)]
theorem Qt.miss {a o v : Int} (h : MI c e) (hm : ¬ e.hit a o = true) : Qt c e (e.cas a o v) := .same h (fun b => by rw [ais, if_neg (fun h => hm h.1)]) rfl rfl rfl
theorem avk {a o : Int} (h : e.hit a o = true) : e.gt a = o ∧ 0 ≤ a := by
  have h : decide ((0 ≤ a ∧ a < (e.m.cells.length : Int)) ∧ aeo e.m.cells a = o) = true := h
  have h := of_decide_eq_true h
  refine ⟨?_, h.1.1⟩
  show e.m.gt a = o
  unfold MemV.gt
  rw [if_pos h.1]; exact h.2
theorem asu (hd : DecOk c) {t u : Int} (ht : TOk c t) (h : abM (aaz c) u = abM (aaz c) t) : u = t := by
  have e1 := ahN hd (t := t) (f := 1) (by omega)
  have e2 := ahN hd (t := u) (f := 1) (by omega)
  have e3 := agA hd
  have h4 := hd.h
  have h : ahc (aaz c) u 1 = ahc (aaz c) t 1 := h
  have ht : 0 ≤ t ∧ t < c.tasks := ht
  rw [e1, e2, if_pos ht] at h
  by_cases hu : 0 ≤ u ∧ u < c.tasks
  · rw [if_pos hu] at h; omega
  · rw [if_neg hu] at h; omega
theorem avd (hd : DecOk c) {t v : Int} (hv : 0 ≤ v ∧ v < c.levels) : CellOk c (abM (aaz c) t) v := by
  have e := agM hd (t := t)
  exact ⟨hv.1, fun k => by omega, fun k => by omega, fun k => hv.2⟩
theorem awM (h : MI c e) {t q v k w o : Int} (ht : TOk c t) (hv : 0 ≤ v ∧ v < c.levels) (hq : q < v) (hh : e.hit (abM (aaz c) t) q = true) (hk : k = 11 ∨ k = 12) : Rsd c e ((e.cas (abM (aaz c) t) q v).em k w t o v) t v := by
  have hg := avk hh
  refine ⟨⟨h.d, h.l, h.cc, fun b => ?_⟩, ht, hv, by show e.gt _ < v; omega, ?_, fun u hu => ?_, ?_, k, w, o, [], hk, rfl, fun x hx => by cases hx⟩
  · show CellOk c b ((e.cas _ q v).gt b)
    rw [ais]
    split
    · rename_i q; rw [q.2]; exact avd h.d hv
    · exact h.ok b
  · show (e.cas _ q v).gt _ = v
    rw [ais, if_pos ⟨hh, rfl⟩]
  · show (e.cas _ q v).gt _ = e.gt _
    rw [ais, if_neg (fun h' => hu (asu h.d ht h'.2))]
  · show (e.cas _ q v).gt 0 = e.gt 0
    rw [ais, if_neg]
    intro h'
    have h1 := agM h.d (t := t)
    rw [← h'.2, agZ] at h1
    omega
def art (v : Int) : RaiseS → Prop
  | .l1 _ => True
  | .l2 q => q < v
theorem aBO {t : Int} (h : MI c e) (s : RaiseS) (hs : art v s) : Rz c e (aed w t v e s).2 ∧ (aed w t v e s).1.Q (art v) (fun _ _ => True) := by
  unfold aed
  rw [h.l]
  split
  · exact ⟨.inl (.refl h), trivial⟩
  rename_i hf
  have hf : awj e t v := Classical.not_not.1 hf
  unfold awj at hf
  rw [h.cc] at hf
  have hl := h.d.l
  cases s with
  | l1 q =>
    refine ⟨.inl (.lk h), ?_⟩
    have hg := avm h t
    have e1 : wi (Lv c e t) = Lv c e t := aaW (aaC (by omega))
    show Rs.Q _ _ (if v ≤ wi (Lv c e t) then _ else _)
    rw [e1]
    exact .ite (fun _ => trivial) fun hn => by show Lv c e t < v; omega
  | l2 q =>
    have e2 : wu v = v := aeF (by omega)
    simp only
    split
    · rename_i hh
      rw [e2]
      exact ⟨.inr ⟨t, v, awM h hf.1 hf.2 hs hh (.inl rfl)⟩, trivial⟩
    · rename_i hh
      exact ⟨.inl (.miss h hh), trivial⟩
def aih : LPushS → Prop
  | .push s => ajl s
  | _ => True
theorem aol (h : MI c e) (hx : TOk c x) (s : LPushS) (hs : aih s) : Qt c e (abS w v x e s).2 ∧ (abS w v x e s).1.Q aih (fun _ _ => True) := by
  have g : ∀ s, ajl s → Qt c e (match adX (aaj e.l w v) x e s with
      | (.go s, e') => (Rs.go (LPushS.push s), e')
      | (.fin c _, e') => (if c = 3 then .fin 3 0 else .go .set, e')).2 ∧ (match adX (aaj e.l w v) x e s with
      | (.go s, e') => (Rs.go (LPushS.push s), e')
      | (.fin c _, e') => (if c = 3 then .fin 3 0 else .go .set, e')).1.Q aih (fun _ _ => True) := fun s hs => by
    have := aB6 (w := w) (v := v) h hx s hs
    rw [h.l]
    revert this
    rcases adX (aaj (aaz c) w v) x e s with ⟨r, e'⟩
    intro this
    cases r with
    | go s => exact this
    | fin c0 v0 => exact ⟨this.1, .ite (fun _ => trivial) fun _ => trivial⟩
  cases s with
  | new => exact g .l1 trivial
  | push s => exact g _ hs
  | set =>
    refine ⟨?_, trivial⟩
    show Qt c e (aC6 (aaP e.l w) v e)
    rw [h.l]
    exact aFi h
def avM : LPopS → Prop
  | .l2 _ s => avL s
  | _ => True
theorem aEs (h : MI c e) (s : LPopS) (hs : avM s) : Qt c e (agK w e s).2 ∧ (agK w e s).1.Q avM (fun r x => r ≠ 2 → TOk c x) := by
  cases s with
  | l1 v =>
    unfold agK
    exact ⟨.lk h, .ite (fun _ => fun h => absurd rfl h) fun _ => trivial⟩
  | l2 v s =>
    have := aD0 (w := w) (v := v) h s hs
    simp only [agK]
    rw [h.l]
    revert this
    rcases ajP (aaj (aaz c) w v) e s with ⟨r, e'⟩
    intro this
    cases r with
    | go s => exact this
    | fin c0 v0 => exact ⟨this.1, .ite (fun hc => fun _ => this.2 hc) fun _ => trivial⟩
  | l3 v s =>
    have := awU (w := w) (v := v) (a := w) (b := v) h s
    simp only [agK]
    rw [h.l]
    revert this
    rcases agc (aaP (aaz c) w) v (aaj (aaz c) w v) e s with ⟨r, e'⟩
    intro this
    cases r with
    | go s => exact ⟨this, trivial⟩
    | fin c0 v0 => exact ⟨this, trivial⟩
def ao0 (c : Cfg) (v : Int) : WalkS → Prop
  | .l1 _ => True
  | .raise t s => TOk c t ∧ art v s
  | .l2 t => TOk c t
  | .push t s => TOk c t ∧ aih s
  | .l4 _ => True
theorem aDr (h : MI c e) (s : WalkS) (hs : ao0 c v s) : Rz c e (ae1 w v e s).2 ∧ (ae1 w v e s).1.Q (ao0 c v) (fun _ _ => True) := by
  have g : ∀ t s, TOk c t → art v s → Rz c e (match aed w t v e s with
      | (.go s, e') => (Rs.go (WalkS.raise t s), e')
      | (.fin c _, e') => (.go (if c = 1 then .l2 t else .l4 t), e')).2 ∧ (match aed w t v e s with
      | (.go s, e') => (Rs.go (WalkS.raise t s), e')
      | (.fin c _, e') => (.go (if c = 1 then .l2 t else .l4 t), e')).1.Q (ao0 c v) (fun _ _ => True) := fun t s ht hs => by
    have := aBO (w := w) (t := t) h s hs
    revert this
    rcases aed w t v e s with ⟨r, e'⟩
    intro this
    cases r with
    | go s => exact ⟨this.1, ht, this.2⟩
    | fin c0 v0 =>
      refine ⟨this.1, ?_⟩
      show ao0 c v (if c0 = 1 then .l2 t else .l4 t)
      split
      · exact ht
      · trivial
  cases s with
  | l1 t =>
    simp only [ae1]
    split
    · exact ⟨.inl (.refl h), trivial⟩
    · rename_i hf
      have hf : awj e t v := Classical.not_not.1 hf
      unfold awj at hf
      rw [h.cc] at hf
      exact g t _ hf.1 trivial
  | raise t s => exact g t s hs.1 hs.2
  | l2 t =>
    refine ⟨.inl (.lk h), ?_⟩
    show ao0 c v (if e.gt (acT e.l t) = 1 then .push t .new else .l4 t)
    split
    · exact ⟨hs, trivial⟩
    · trivial
  | push t s =>
    have := aol (w := w) (v := v) h hs.1 s hs.2
    simp only [ae1]
    revert this
    rcases abS w v t e s with ⟨r, e'⟩
    intro this
    cases r with
    | go s => exact ⟨.inl this.1, hs.1, this.2⟩
    | fin c0 v0 =>
      refine ⟨.inl ?_, trivial⟩
      show Qt c e (if c0 = 3 then e'.em 19 w t 0 v else e')
      split
      · exact this.1.em hs.1 (by omega)
      · exact this.1
  | l4 t =>
    simp only [ae1]
    exact ⟨.inl (.lk h), .ite (fun _ => trivial) fun _ => trivial⟩
def arv : EnterS → Prop
  | .l4 _ s => aih s
  | _ => True
theorem aCL {t : Int} (h : MI c e) (ht : TOk c t) (s : EnterS) (hs : arv s) : Qt c e (adx w t e s).2 ∧ (adx w t e s).1.Q arv (fun _ _ => True) := by
  cases s with
  | l1 =>
    simp only [adx]
    rw [h.l]
    split
    · exact ⟨.refl h, trivial⟩
    · exact ⟨.fr h (ano h.d) (ag1 _), trivial⟩
  | l2 =>
    simp only [adx]
    rw [h.l]
    exact ⟨.fr h (agq h.d) (by omega), trivial⟩
  | l3 => exact ⟨.lk h, trivial⟩
  | l4 v s =>
    have := aol (w := w) (v := v) h ht s hs
    simp only [adx]
    revert this
    rcases abS w v t e s with ⟨r, e'⟩
    intro this
    cases r with
    | go s => exact this
    | fin c0 v0 => exact ⟨this.1, trivial⟩
def arq (c : Cfg) : SweepS → Prop
  | .l4 q => 0 ≤ q ∧ q + 1 < c.levels
  | .l6 _ s => aih s
  | _ => True
theorem aA8 {t : Int} (h : MI c e) (ht : TOk c t) (s : SweepS) (hs : arq c s) : Rz c e (abe w t e s).2 ∧ (abe w t e s).1.Q (arq c) (fun _ _ => True) := by
  have hl := h.d.l
  cases s with
  | l1 =>
    simp only [abe]
    split
    · exact ⟨.inl (.refl h), trivial⟩
    · exact ⟨.inl (.lk h), .ite (fun _ => trivial) fun _ => trivial⟩
  | l2 =>
    simp only [abe]
    exact ⟨.inl (.lk h), .ite (fun _ => trivial) fun _ => trivial⟩
  | l3 =>
    simp only [abe]
    rw [h.l, h.cc]
    refine ⟨.inl (.lk h), .ite (fun _ => trivial) fun hn => ?_⟩
    have hg := avm h t
    have e1 : wi (Lv c e t) = Lv c e t := aaW (aaC (by omega))
    have e2 : wi (c.levels - 1) = c.levels - 1 := aaW (aaC (by omega))
    have hn : ¬ wi (c.levels - 1) ≤ wi (Lv c e t) := hn
    rw [e1, e2] at hn
    show 0 ≤ Lv c e t ∧ Lv c e t + 1 < c.levels
    omega
  | l4 q =>
    have hs : 0 ≤ q ∧ q + 1 < c.levels := hs
    have e1 : wu (q + 1) = q + 1 := aeF (by omega)
    have e2 : wi (wi q + 1) = q + 1 := by rw [aaW (x := q) (aaC (by omega)), aaW (aaC (by omega))]
    simp only [abe]
    rw [h.l, e1, e2]
    split
    · rename_i hh
      exact ⟨.inr ⟨t, q + 1, awM h ht (by omega) (by omega) hh (.inr rfl)⟩, trivial⟩
    · rename_i hh
      exact ⟨.inl (.miss h hh), trivial⟩
  | l5 q =>
    simp only [abe]
    rw [h.l]
    exact ⟨.inl (.fr h (ano h.d) (ag1 _)), trivial⟩
  | l6 q s =>
    have := aol (w := w) (v := wi (wi q + 1)) h ht s hs
    simp only [abe]
    revert this
    rcases abS w (wi (wi q + 1)) t e s with ⟨r, e'⟩
    intro this
    cases r with
    | go s => exact ⟨.inl this.1, this.2⟩
    | fin c0 v0 =>
      refine ⟨.inl ?_, trivial⟩
      show Qt c e (if c0 = 3 then e'.em 19 w t 0 _ else e')
      split
      · exact this.1.em ht (by omega)
      · exact this.1
def avK (c : Cfg) : TakeS → Prop
  | .pop s => avM s
  | .claim t => TOk c t
theorem aDx (h : MI c e) (s : TakeS) (hs : avK c s) : Qt c e (aiz w e s).2 ∧ (aiz w e s).1.Q (avK c) (fun r x => r = 1 → TOk c x) := by
  cases s with
  | pop s =>
    have := aEs (w := w) h s hs
    simp only [aiz]
    revert this
    rcases agK w e s with ⟨r, e'⟩
    intro this
    cases r with
    | go s => exact this
    | fin c0 v0 => exact ⟨this.1, .ite (fun _ => fun h => absurd h (by omega)) fun hn => this.2 hn⟩
  | claim t => exact ⟨akr h hs, .ite (fun _ => fun _ => hs) fun _ => trivial⟩
def as5 (c : Cfg) (d : DrainS) : Prop := (d.direct = true → TOk c d.x) ∧ match d.c with
  | .l3 s => alI c s
  | .l4 => TOk c d.x
  | .l5 s => TOk c d.x ∧ aih s
  | _ => True
theorem avs {d : DrainS} (h : d.direct = true → TOk c d.x) : (ai8 d).Q (as5 c) (fun r x => r = 1 → TOk c x) := by
  unfold ai8
  exact .ite (fun k => fun _ => h k) fun _ => .ite (fun _ => fun h => absurd h (by omega)) fun _ => fun h => absurd h (by omega)
theorem aCN (h : MI c e) (d : DrainS) (hd : as5 c d) : Qt c e (abk w e d).2 ∧ (abk w e d).1.Q (as5 c) (fun r x => r = 1 → TOk c x) := by
  obtain ⟨x, dir, p, last, cnt, k⟩ := d
  obtain ⟨h1, h2⟩ := hd
  cases k with
  | l1 =>
    simp only [abk]
    exact ⟨.lk h, .ite (fun _ => fun h => absurd h (by omega)) fun _ => ⟨h1, trivial⟩⟩
  | l2 =>
    simp only [abk]
    exact ⟨ass h, .ite (fun _ => ⟨h1, trivial⟩) fun _ => fun h => absurd h (by omega)⟩
  | l3 s =>
    have := azp (w := w) h s h2
    simp only [abk]
    revert this
    rcases ac3 w e s with ⟨r, e'⟩
    intro this
    cases r with
    | go s => exact ⟨this.1, h1, this.2⟩
    | fin c0 v0 => exact ⟨this.1, .ite (fun _ => ⟨h1, trivial⟩) fun hn => ⟨fun _ => this.2 hn, this.2 hn⟩⟩
  | l4 =>
    simp only [abk]
    exact ⟨.lk h, h1, h2, trivial⟩
  | l5 s =>
    have := aol (w := w) (v := p) h h2.1 s h2.2
    simp only [abk]
    revert this
    rcases abS w p x e s with ⟨r, e'⟩
    intro this
    cases r with
    | go s => exact ⟨this.1, h1, h2.1, this.2⟩
    | fin c0 v0 => exact ⟨this.1, .ite (fun _ => ⟨fun _ => h2.1, trivial⟩) fun _ => .ite (fun _ => ⟨h1, trivial⟩) fun _ => ⟨h1, trivial⟩⟩
  | l6 =>
    simp only [abk]
    exact ⟨axL h, .ite (fun _ => ⟨h1, trivial⟩) fun _ => avs h1⟩
  | l7 s =>
    have := arE (w := w) (v := last) h s
    simp only [abk]
    revert this
    rcases aej w last e s with ⟨r, e'⟩
    intro this
    cases r with
    | go s => exact ⟨this, h1, trivial⟩
    | fin c0 v0 => exact ⟨this, avs h1⟩
end
end
section
open Go Go.RowKit
set_option maxRecDepth 100000
variable [Tb]
structure Nq (c : Cfg) (e e' : EnvP) : Prop where
  ix : ∀ a, ckC c a = 4 → e'.gt a = e.gt a
  sz : e.gt 2 ≤ c.heap → e'.gt 2 ≤ c.heap
def N4 (c : Cfg) (a : Int) : Prop := ckC c a ≠ 4 ∧ a ≠ 2
section
variable {c : Cfg} {e e' e'' : EnvP} {a v k o t w : Int}
theorem ax6 (h : DecOk c) : ckC c 2 = 1 := anu h (by omega)
theorem azT (h : DecOk c) (h1 : ckC c a ≠ 1) (h4 : ckC c a ≠ 4) : N4 c a := ⟨h4, fun k => h1 (by rw [k]; exact ax6 h)⟩
theorem aqA (h : DecOk c) (ha : a = 0 ∨ a = 1 ∨ a = 3) : N4 c a := by
  refine ⟨?_, by omega⟩
  rcases ha with k | k | k <;> rw [k]
  · rw [agZ]; omega
  · rw [anu h (by omega)]; omega
  · rw [anu h (by omega)]; omega
theorem aoi (h : DecOk c) {f : Int} (hf : 0 ≤ f ∧ f < 5) : N4 c (ahc (aaz c) t f) := by
  have e := aq2 h (t := t) hf
  refine azT h ?_ ?_ <;> rw [e] <;> repeat' split
  all_goals omega
theorem agn (h : DecOk c) : N4 c (acT (aaz c) t) := aoi h (by omega)
theorem ajz (h : DecOk c) : N4 c (abM (aaz c) t) := aoi h (by omega)
theorem aqz (h : DecOk c) : N4 c (agQ (aaz c) t) := aoi h (by omega)
theorem aqx (h : DecOk c) : N4 c (aii (aaz c) t) := aoi h (by omega)
theorem ann (h : DecOk c) : N4 c (akD (aaz c) t) := aoi h (by omega)
theorem aqy (h : DecOk c) : N4 c (aeQ (aaz c) t) := by have := ans h (i := t); exact azT h (by omega) (by omega)
theorem asp (h : DecOk c) (h3 : ckC c a = 3 ∨ ckC c a = 9) : N4 c a := azT h (by omega) (by omega)
theorem axw (h : DecOk c) (w v : Int) {b : Int} (hb : 0 ≤ b) : N4 c (aeD (aaj (aaz c) w v) b) := by have := ant h w v hb; exact azT h (by omega) (by omega)
theorem Nq.refl : Nq c e e := ⟨fun _ _ => rfl, id⟩
theorem Nq.lk : Nq c e (e.lk a) := ⟨fun _ _ => alr, fun h => by rw [alr]; exact h⟩
theorem Nq.pt (h : N4 c a) : Nq c e (e.pt k a v) := by
  refine ⟨fun b hb => ?_, fun hs => ?_⟩
  · rw [ahx, if_neg]
    intro q
    rw [q.1] at hb
    exact h.1 hb
  · rw [ahx, if_neg (fun q => h.2 q.1.symm)]; exact hs
theorem Nq.cas (h : N4 c a) : Nq c e (e.cas a o v) := by
  refine ⟨fun b hb => ?_, fun hs => ?_⟩
  · rw [ais, if_neg]
    intro q
    rw [q.2] at hb
    exact h.1 hb
  · rw [ais, if_neg (fun q => h.2 q.2.symm)]; exact hs
theorem Nq.size (hd : DecOk c) (hv : v ≤ c.heap) : Nq c e (e.pt k 2 v) := by
  refine ⟨fun b hb => ?_, fun hs => ?_⟩
  · rw [ahx, if_neg]
    intro q
    rw [q.1, ax6 hd] at hb
    omega
  · rw [ahx]
    split
    · exact hv
    · exact hs
theorem Nq.em {l : Int} (h : Nq c e e') : Nq c e (e'.em k w t o l) := ⟨h.ix, h.sz⟩
theorem Nq.pr {r : RecP} (h : Nq c e e') : Nq c e (e'.pr t r) := ⟨h.ix, h.sz⟩
theorem Nq.trans (h : Nq c e e') (h' : Nq c e' e'') : Nq c e e'' := ⟨fun a ha => (h'.ix a ha).trans (h.ix a ha), fun hs => h'.sz (h.sz hs)⟩
theorem awV {b : Int} {q : QV} (h : MI c e) (s : ResetS) : Nq c e (agc (aaP (aaz c) a) b q e s).2 := by
  cases s with
  | l1 => exact .pt (asp h.d (alD h.d))
  | l2 => exact .lk
  | l3 x => exact .lk
  | l4 x => exact .pt (asp h.d (alD h.d))
theorem aFj {b : Int} (h : MI c e) : Nq c e (aC6 (aaP e.l a) b e) := by
  rw [h.l]
  exact .pt (asp h.d (alD h.d))
theorem aks (h : MI c e) : Nq c e (ahE w t e) := by
  unfold ahE
  rw [h.l]
  split
  · split
    · exact (Nq.cas (agn h.d)).em
    · exact (Nq.cas (agn h.d)).pr.em
  · exact (Nq.cas (agn h.d)).em
theorem apA (h : MI c e) : Nq c e (atM o e) := .cas (aqA h.d (by omega))
theorem avo (h : MI c e) : Nq c e (asA e) := .pt (aqA h.d (by omega))
theorem arj (h : MI c e) : Nq c e (af1 e) := .pt (aqA h.d (by omega))
theorem awY (h : MI c e) (s : PublishS) : Nq c e (aeq t v e s).2 := by
  unfold aeq
  rw [h.l]
  split
  · exact .refl
  · cases s with
    | l1 => exact .pt (ajz h.d)
    | l2 => exact .pt (ann h.d)
    | l3 => exact .pt (agn h.d)
theorem aBq (h : MI c e) (s : SleepS) : Nq c e (aga w e s).2 := by
  cases s with
  | l1 => exact .lk
  | l2 ep => exact .pt (asp h.d (akC h))
  | l3 ep => exact .lk
  | l4 ep v =>
    simp only [aga]
    split
    · exact .lk
    · split
      · exact Nq.em .lk
      · exact .lk
  | l5 ep v s =>
    simp only [aga]
    split
    · exact Nq.em .lk
    · split
      · exact Nq.em .lk
      · exact .lk
  | l6 _ _ _ => exact .pt (asp h.d (akC h))
  | l7 _ _ _ => exact .pt (asp h.d (akC h))
theorem arF (h : MI c e) (s : WakeS) : Nq c e (aej w v e s).2 := by
  cases s with
  | l1 j => exact .lk
  | l2 j x => exact .pt (asp h.d (auo h))
  | l3 j x =>
    show Nq c e ((e.pt 6 (agL e.l x) _).em 18 w 0 x 0)
    rw [h.l]
    exact Nq.em (.pt (asp h.d (avD h.d)))
theorem aBW (s : ProbeS) : Nq c e (aj1 w e s).2 := by
  have g : ∀ s i bm, Nq c e (ain w e s i bm).2 := fun s i bm => by
    unfold ain
    split
    · exact .refl
    · simp only
      split
      · exact .lk
      · exact .lk
  cases s with
  | new => exact g _ _ _
  | run s i bm => exact g _ _ _
theorem aBP (h : MI c e) (s : RaiseS) : Nq c e (aed w t v e s).2 := by
  unfold aed
  rw [h.l]
  split
  · exact .refl
  · cases s with
    | l1 q => exact .lk
    | l2 q =>
      simp only
      split
      · exact Nq.em (.cas (ajz h.d))
      · exact .cas (ajz h.d)
def ao3 (c : Cfg) : InsertS → Prop
  | .l1 => True
  | .l2 n => 0 ≤ n ∧ n < c.heap
  | .l3 n _ _ _ => 0 ≤ n ∧ n < c.heap
  | .l4 n _ _ _ => 0 ≤ n ∧ n < c.heap
  | .l5 n _ _ _ => 0 ≤ n ∧ n < c.heap
  | .l6 n _ _ _ => 0 ≤ n ∧ n < c.heap
def amx (c : Cfg) : RemoveS → Prop
  | .l1 => True
  | .l2 n => 1 ≤ n ∧ n ≤ c.heap
  | .l3 n _ => 1 ≤ n ∧ n ≤ c.heap
  | .l4 n _ _ => 1 ≤ n ∧ n ≤ c.heap
  | _ => True
theorem aw4 {n i k x : Int} (h : 0 ≤ n ∧ n < c.heap) : ao3 c (an6 n i k x) := by
  unfold an6
  split
  · exact h
  · exact h
theorem awG (h : MI c e) (hs : e.gt 2 ≤ c.heap) : wi (e.gt 2) = e.gt 2 := by
  have h1 := h.p 2
  have h2 := h.d.h
  exact aaW (aaC (by omega))
theorem avi {d : Int} (h : MI c e) (hz : e.gt 2 ≤ c.heap) (s : InsertS) (hs : ao3 c s) : Nq c e (acF d t e s).2 ∧ (acF d t e s).1.Q (ao3 c) (fun _ _ => True) := by
  have h2 := h.d.h
  cases s with
  | l1 =>
    have h1 := h.p 2
    refine ⟨.lk, ?_⟩
    show Rs.Q (ao3 c) _ (if e.c.heap ≤ wi (e.gt 2) then _ else .go (.l2 (wi (e.gt 2))))
    rw [awG h hz, h.cc]
    exact .ite (fun _ => trivial) fun hn => by show 0 ≤ e.gt 2 ∧ e.gt 2 < c.heap; omega
  | l2 n => exact ⟨.pt (aqA h.d (by omega)), .ite (fun _ => aw4 hs) fun _ => trivial⟩
  | l3 n i k x => exact ⟨.lk, .ite (fun _ => hs) fun _ => hs⟩
  | l4 n i k x =>
    unfold acF
    rw [h.l]
    exact ⟨.pt (aqy h.d), aw4 hs⟩
  | l5 n i k x =>
    unfold acF
    rw [h.l]
    exact ⟨.pt (aqy h.d), hs⟩
  | l6 n i k x =>
    have hs : 0 ≤ n ∧ n < c.heap := hs
    have e1 : wi (n + 1) = n + 1 := aaW (aaC (by omega))
    refine ⟨?_, trivial⟩
    show Nq c e (e.pt 2 2 (wu (wi (n + 1))))
    rw [e1, aeF (by omega)]
    exact .size h.d (by omega)
theorem ayf {n i d x y z : Int} : amx c (aoQ n i d x y z) := by
  unfold aoQ
  split <;> trivial
theorem axZ {n i d x y z : Int} : amx c (asI n i d x y z) := by
  unfold asI
  split <;> trivial
theorem azq (h : MI c e) (hz : e.gt 2 ≤ c.heap) (s : RemoveS) (hs : amx c s) : Nq c e (ac3 w e s).2 ∧ (ac3 w e s).1.Q (amx c) (fun _ _ => True) := by
  have h2 := h.d.h
  cases s with
  | l1 =>
    have h1 := h.p 2
    refine ⟨.lk, ?_⟩
    show Rs.Q (amx c) _ (if wi (e.gt 2) ≤ 0 then _ else .go (.l2 (wi (e.gt 2))))
    rw [awG h hz]
    exact .ite (fun _ => trivial) fun hn => by show 1 ≤ e.gt 2 ∧ e.gt 2 ≤ c.heap; omega
  | l2 n => exact ⟨.lk, hs⟩
  | l3 n x => exact ⟨.lk, hs⟩
  | l4 n x y =>
    have hs : 1 ≤ n ∧ n ≤ c.heap := hs
    have e1 : wi (n - 1) = n - 1 := aaW (aaC (by omega))
    refine ⟨?_, .ite (fun _ => trivial) fun _ => ayf⟩
    show Nq c e ((e.pt 2 2 (wu (wi (n - 1)))).em 13 w _ 0 0)
    rw [e1, aeF (by omega)]
    exact Nq.em (.size h.d (by omega))
  | l5 n i d x y z => exact ⟨.lk, .ite (fun _ => trivial) fun _ => axZ⟩
  | l6 n i d x y z => exact ⟨.lk, .ite (fun _ => axZ) fun _ => axZ⟩
  | l7 n i d x y z =>
    unfold ac3
    rw [h.l]
    exact ⟨.pt (aqy h.d), ayf⟩
  | l8 n i d x y z =>
    unfold ac3
    rw [h.l]
    exact ⟨.pt (aqy h.d), trivial⟩
end
end
section
open Go Go.RowKit
set_option maxRecDepth 100000
variable [Tb]
structure Al (c : Cfg) (e e' : EnvP) : Prop where
  i : MI c e'
  lv : ∀ t, Lv c e' t = Lv c e t
  nx : e'.gt 0 = wu (e.gt 0 + 1) ∨ e'.gt 0 = e.gt 0
  ev : ∃ l, e'.evs = e.evs ++ l ∧ ∀ x ∈ l, Pl c x
structure Al1 (c : Cfg) (e e' : EnvP) : Prop where
  a : Al c e e'
  n : e'.gt 0 = wu (e.gt 0 + 1)
structure W0 (c : Cfg) (e e' : EnvP) (t v : Int) : Prop where
  i : MI c e'
  now : Lv c e' t = v
  ot : ∀ u, u ≠ t → Lv c e' u = Lv c e u
  nx : e'.gt 0 = e.gt 0
  ev : e'.evs = e.evs
structure An (c : Cfg) (e e' : EnvP) (t v : Int) : Prop where
  i : MI c e'
  lv : ∀ t, Lv c e' t = Lv c e t
  nx : e'.gt 0 = e.gt 0
  ev : ∃ l k w o, (k = 1 ∨ k = 3) ∧ (∀ x ∈ l, Pl c x) ∧ e'.evs = e.evs ++ l ++ [⟨k, w, t, o, v⟩]
abbrev as9 := Option (Int × Int × Bool)
inductive Tr (c : Cfg) (e e' : EnvP) : as9 → as9 → Prop
  | same (p : as9) (h : Rz c e e') : Tr c e e' p p
  | drop (p : as9) (h : Rz c e e') : Tr c e e' p none
  | al (h : Al c e e') : Tr c e e' none none
  | al1 (v : Int) (h : Al1 c e e') (ht : TOk c (wi (e.gt 0))) (hv : 0 ≤ v ∧ v < c.levels) : Tr c e e' none (some (wi (e.gt 0), v, false))
  | w0 (t v : Int) (h : W0 c e e' t v) : Tr c e e' (some (t, v, false)) (some (t, v, true))
  | an (t v : Int) (h : An c e e' t v) : Tr c e e' (some (t, v, true)) none
section
variable {c : Cfg} {e e' : EnvP} {w : Int}
theorem Tr.i {p q : as9} (h : Tr c e e' p q) : MI c e' := by
  cases h with
  | same _ h => exact h.i
  | drop _ h => exact h.i
  | al h => exact h.i
  | al1 _ h => exact h.a.i
  | w0 _ _ h => exact h.i
  | an _ _ h => exact h.i
theorem aAp (h : MI c e) : Al c e (af1 e) ∧ (0 < (e.m.cells.length : Int) → Al1 c e (af1 e)) := by
  have hv : CellOk c 0 (wu (e.gt 0 + 1)) := ⟨ag1 _, fun k => by rw [agZ] at k; omega, fun k => by rw [agZ] at k; omega, fun k => by rw [agZ] at k; omega⟩
  have hl : ∀ t, Lv c (af1 e) t = Lv c e t := fun t => by
    show (e.pt 6 0 (wu (e.gt 0 + 1))).gt _ = e.gt _
    rw [ahx, if_neg]
    intro h'
    have h1 := agM h.d (t := t)
    rw [h'.1, agZ] at h1
    omega
  have hn : (af1 e).gt 0 = if (0 : Int) = 0 ∧ 0 ≤ (0 : Int) ∧ 0 < (e.m.cells.length : Int) then wu (e.gt 0 + 1) else e.gt 0 := ahx
  have ha : Al c e (af1 e) := ⟨h.pt hv, hl, by rw [hn]; split; exact .inl rfl; exact .inr rfl, [], by show e.evs = _; simp, fun x hx => by cases hx⟩
  exact ⟨ha, fun hp => ⟨ha, by rw [hn, if_pos ⟨rfl, Int.le_refl 0, hp⟩]⟩⟩
theorem Al.em {k w o l t : Int} (h : Al c e e') (ht : 0 ≤ t ∧ t < c.tasks) (hk : k ≠ 1 ∧ k ≠ 3 ∧ k ≠ 11 ∧ k ≠ 12) : Al c e (e'.em k w t o l) := by
  obtain ⟨m, hm, hp⟩ := h.ev
  refine ⟨⟨h.i.d, h.i.l, h.i.cc, h.i.ok⟩, h.lv, h.nx, m ++ [⟨k, w, t, o, l⟩], ?_, fun x hx => ?_⟩
  · show e'.evs ++ [_] = _
    rw [hm, List.append_assoc]
  · rcases List.mem_append.1 hx with hx | hx
    · exact hp x hx
    · rw [List.mem_singleton.1 hx]
      exact ⟨ht, hk⟩
theorem Al.pr {t : Int} {r : RecP} (h : Al c e e') : Al c e (e'.pr t r) := ⟨⟨h.i.d, h.i.l, h.i.cc, h.i.ok⟩, h.lv, h.nx, h.ev⟩
theorem Al1.pr {t : Int} {r : RecP} (h : Al1 c e e') : Al1 c e (e'.pr t r) := ⟨h.a.pr, h.n⟩
theorem aDt (h : MI c e) {t v : Int} (ht : TOk c t) (hv : 0 ≤ v ∧ v < c.levels) (hr : abM (aaz c) t < (e.m.cells.length : Int)) : W0 c e (e.pt 2 (abM (aaz c) t) v) t v := by
  have e1 : 0 ≤ abM (aaz c) t := by
    have := agM h.d (t := t)
    have e2 := ahN h.d (t := t) (f := 1) (by omega)
    have e3 := agA h.d
    have e4 := h.d.h
    show 0 ≤ ahc (aaz c) t 1
    have ht : 0 ≤ t ∧ t < c.tasks := ht
    rw [e2, if_pos ht]
    omega
  refine ⟨h.pt (avd h.d hv), ?_, fun u hu => ?_, ?_, rfl⟩
  · show (e.pt _ _ _).gt _ = v
    rw [ahx, if_pos ⟨rfl, e1, hr⟩]
  · show (e.pt _ _ _).gt _ = e.gt _
    rw [ahx, if_neg (fun h' => hu (asu h.d ht h'.1))]
  · rw [ahx, if_neg]
    intro h'
    have h1 := agM h.d (t := t)
    rw [← h'.1, agZ] at h1
    omega
theorem Qt.an {t v k w o : Int} (h : Qt c e e') (hk : k = 1 ∨ k = 3) : An c e (e'.em k w t o v) t v := by
  obtain ⟨m, hm, hp⟩ := h.ev
  exact ⟨⟨h.i.d, h.i.l, h.i.cc, h.i.ok⟩, h.lv, h.nx, m, k, w, o, hk, hp, by show e'.evs ++ [_] = _; rw [hm]⟩
def aDi (c : Cfg) (r : RunS) : Prop := match r.c with
  | .s2 _ => TOk c r.id ∧ (0 ≤ r.level ∧ r.level < c.levels)
  | .s3 s => TOk c r.id ∧ aih s
  | .s5 => TOk c r.id
  | .j5 s => ao0 c r.level s
  | .f4 s => TOk c r.waiter ∧ arv s
  | .f6 => TOk c r.waiter
  | _ => True
def aBT (r : RunS) : as9 := match r.c with
  | .s2 .l1 => some (r.id, r.level, false)
  | .s2 _ => some (r.id, r.level, true)
  | _ => none
def aAs (c : Cfg) (e : EnvP) (p : as9) (o : Rs RunS × EnvP) : Prop := Tr c e o.2 p (match o.1 with
  | .go r => aBT r
  | .fin _ _ => none) ∧ o.1.Q (aDi c) (fun _ _ => True)
theorem aAs.ite {p : as9} {P : Prop} [Decidable P] {a b : Rs RunS × EnvP} (h1 : P → aAs c e p a) (h2 : ¬ P → aAs c e p b) : aAs c e p (if P then a else b) := by
  split
  · exact h1 ‹_›
  · exact h2 ‹_›
theorem aor {r : RunS} (h : Rz c e e') : aAs c e none (agV r e') := by
  unfold agV aAs
  by_cases h1 : r.stack.length = 1
  · rw [if_pos h1]; exact ⟨.same _ h, trivial⟩
  · rw [if_neg h1]; exact ⟨.same _ h, trivial⟩
theorem aDU (h : MI c e) {x : RecP} {i : Int} (hi : ¬ (i < 0 ∨ ((e.prog x).length : Int) ≤ i)) (ho : (aco (e.prog x) i).op = 1) : 0 ≤ (aco (e.prog x) i).b ∧ (aco (e.prog x) i).b < c.levels := by
  have hm : aco (e.prog x) i ∈ e.prog x := av9 (α := Ins) (d := (dfR 3 : TR 3)) (by omega)
  have hp : e.prog x ∈ c.progs ∨ e.prog x = [] := by
    unfold EnvP.prog
    rw [h.cc]
    split
    · exact .inr rfl
    · exact .inl (av9 (by omega))
  rcases hp with hp | hp
  · rcases h.d.ps _ hp _ hm with k | k | k
    · omega
    · exact k.2.2.2
    · omega
  · rw [hp] at hm; cases hm
theorem aDI {t : Int} {r : RunS} (h : MI c e) (hl : (e.m.cells.length : Int) = aba c) (ht : TOk c t) (hc : r.c = .next) : aAs c e none (aso w e r t (e.rc t) (e.prog (e.rc t))) := by
  have hp : aBT r = none := by unfold aBT; rw [hc]
  have hg : aDi c r := by unfold aDi; rw [hc]; trivial
  have hs : ∀ {e' : EnvP}, Rz c e e' → aAs c e none (.go r, e') := fun h => ⟨by show Tr c e _ none (aBT r); rw [hp]; exact .same _ h, hg⟩
  have h0 : 0 < (e.m.cells.length : Int) := by
    have := agA h.d
    have h4 := h.d.h
    have h5 := h.d.t
    rw [hl]; unfold aba; omega
  unfold aso
  rw [h.l]
  refine .ite (fun _ => hs (.inl (Qt.fr h (aqQ h.d) (by omega)).pr)) fun _ => ?_
  refine .ite (fun _ => ⟨.same _ (.inl (.fr h (agq h.d) (by omega))), trivial⟩) fun hi => ?_
  refine .ite (fun _ => hs (.inl (Qt.refl h).pr)) fun _ => ?_
  refine .ite (fun ho => ?_) fun _ => ?_
  · refine .ite (fun hn => ?_) fun hn => ?_
    · have hn : TOk c (wi (e.gt 0)) := by unfold IsT at hn; rw [h.cc] at hn; exact hn
      have hb := aDU h hi ho
      exact ⟨.al1 _ (((aAp h).2 h0).pr.pr) hn hb, hn, hb⟩
    · exact ⟨by show Tr c e _ none (aBT r); rw [hp]; exact .al ((aAp h).1.pr.em ht (by omega)), hg⟩
  · refine .ite (fun _ => hs (.inl (Qt.refl h).pr)) fun _ => ?_
    exact ⟨.same _ (.inl (Qt.fr h (aqQ h.d) (ag1 _)).pr), trivial⟩
theorem aFl {r : RunS} (h : MI c e) (hl : (e.m.cells.length : Int) = aba c) (hr : aDi c r) : aAs c e (aBT r) (ath w e r) := by
  unfold ath
  refine .ite (fun _ => ⟨.drop _ (.inl (.refl h)), trivial⟩) fun ht => ?_
  replace ht : IsT e (aaQ r.stack) := Classical.not_not.1 ht
  unfold IsT at ht
  rw [h.cc] at ht
  revert ht
  generalize aaQ r.stack = t
  intro ht
  obtain ⟨stack, id, child, level, waiter, k⟩ := r
  cases k with
  | next => exact aDI h hl ht rfl
  | s2 s =>
    obtain ⟨h1, h2⟩ := hr
    have hl2 := h.d.l
    simp only [afO, aeq]
    have hi : ¬ ¬ IsT e id := by unfold IsT; rw [h.cc]; exact fun h => h h1
    rw [if_neg hi, h.l]
    cases s with
    | l1 =>
      have h2 : 0 ≤ level ∧ level < c.levels := h2
      have e1 : wu level = level := aeF (by omega)
      simp only [e1]
      refine ⟨.w0 _ _ (aDt h h1 h2 ?_), h1, h2⟩
      have e2 := ahN h.d (t := id) (f := 1) (by omega)
      show ahc (aaz c) id 1 < _
      have h1 : 0 ≤ id ∧ id < c.tasks := h1
      rw [e2, if_pos h1, hl]
      unfold aba
      omega
    | l2 => exact ⟨.same _ (.inl (.fr h (ano h.d) (ag1 _))), h1, h2⟩
    | l3 => exact ⟨.an _ _ ((Qt.fr h (agq h.d) (by omega)).an (.inr rfl)), h1, trivial⟩
  | s3 s =>
    have := aol (w := w) (v := level) h hr.1 s hr.2
    simp only [afO]
    revert this
    rcases abS w level id e s with ⟨o, e'⟩
    intro this
    cases o with
    | go s => exact ⟨.same _ (.inl this.1), hr.1, this.2⟩
    | fin c0 v0 =>
      simp only
      split
      · exact ⟨.same _ (.inl this.1), hr.1⟩
      · exact ⟨.same _ (.inl this.1), trivial⟩
  | s4 s =>
    have := arE (w := w) (v := level) h s
    simp only [afO]
    revert this
    rcases aej w level e s with ⟨o, e'⟩
    intro this
    cases o with
    | go s => exact ⟨.same _ (.inl this), trivial⟩
    | fin c0 v0 => exact ⟨.same _ (.inl this), trivial⟩
  | s5 =>
    simp only [afO]
    split
    · exact ⟨.same _ (.inl (akr h hr)), trivial⟩
    · exact ⟨.same _ (.inl (akr h hr)), trivial⟩
  | j2 =>
    simp only [afO]
    rw [h.l]
    exact ⟨.same _ (.inl (.fr h (agq h.d) (by omega))), trivial⟩
  | j3 =>
    simp only [afO]
    rw [h.l]
    exact .ite (fun _ => ⟨.same _ (.inl ((Qt.cas h (aqS h.d) (ag1 _)).em ht (by omega))), trivial⟩) fun _ => ⟨.same _ (.inl (.cas h (aqS h.d) (ag1 _))), trivial⟩
  | j4 => exact ⟨.same _ (.inl (.lk h)), trivial⟩
  | j5 s =>
    have := aDr (w := w) (v := level) h s hr
    simp only [afO]
    revert this
    rcases ae1 w level e s with ⟨o, e'⟩
    intro this
    cases o with
    | go s => exact ⟨.same _ this.1, this.2⟩
    | fin c0 v0 => exact aor (this.1.em ht (by omega))
  | j6 =>
    simp only [afO]
    rw [h.l]
    exact ⟨.same _ (.inl (.fr h (agq h.d) (by omega))), trivial⟩
  | j7 =>
    simp only [afO]
    rw [h.l]
    exact ⟨.same _ (.inl ((Qt.fr h (aqQ h.d) (by omega)).pr.em ht (by omega))), trivial⟩
  | f2 =>
    simp only [afO]
    rw [h.l]
    exact .ite (fun _ => aor (.inl ((Qt.cas h (aqS h.d) (by omega)).em ht (by omega)))) fun _ => ⟨.same _ (.inl ((Qt.cas h (aqS h.d) (by omega)).em ht (by omega))), trivial⟩
  | f3 =>
    simp only [afO]
    refine .ite (fun hn => ?_) fun _ => aor (.inl (.lk h))
    unfold IsT at hn
    rw [h.cc] at hn
    exact ⟨.same _ (.inl (.lk h)), hn, trivial⟩
  | f4 s =>
    have := aCL (w := w) h hr.1 s hr.2
    simp only [afO]
    revert this
    rcases adx w waiter e s with ⟨o, e'⟩
    intro this
    cases o with
    | go s => exact ⟨.same _ (.inl this.1), hr.1, this.2⟩
    | fin c0 v0 =>
      simp only
      split
      · exact ⟨.same _ (.inl this.1), hr.1⟩
      · exact ⟨.same _ (.inl this.1), trivial⟩
  | f5 v s =>
    have := arE (w := w) (v := v) h s
    simp only [afO]
    revert this
    rcases aej w v e s with ⟨o, e'⟩
    intro this
    cases o with
    | go s => exact ⟨.same _ (.inl this), trivial⟩
    | fin c0 v0 => exact aor (.inl this)
  | f6 =>
    simp only [afO]
    exact .ite (fun _ => ⟨.same _ (.inl (akr h hr)), trivial⟩) fun _ => aor (.inl (akr h hr))
end
end
section
open Go Go.RowKit
set_option maxRecDepth 100000
variable [Tb]
section
variable {c : Cfg} {e e' : EnvP} {w : Int}
def awf (c : Cfg) (k : WorkS) : Prop := match k.c with
  | .t1 t s => TOk c t ∧ arq c s
  | .t2 s => avK c s
  | .t3 s => as5 c s
  | .t5 s => ars c s
  | .t6 => TOk c k.x
  | .t7 s => aDi c s
  | _ => True
def aEY (k : WorkS) : as9 := match k.c with
  | .t7 s => aBT s
  | _ => none
def aro (c : Cfg) (e : EnvP) (p : as9) (o : WorkS × EnvP) : Prop := Tr c e o.2 p (aEY o.1) ∧ awf c o.1
theorem aro.ite {p : as9} {P : Prop} [Decidable P] {a b : WorkS × EnvP} (h1 : P → aro c e p a) (h2 : ¬ P → aro c e p b) : aro c e p (if P then a else b) := by
  split
  · exact h1 ‹_›
  · exact h2 ‹_›
theorem aro.ite1 {p : as9} {P : Prop} [Decidable P] {a b : WorkS} {e' : EnvP} (h1 : P → aro c e p (a, e')) (h2 : ¬ P → aro c e p (b, e')) : aro c e p (if P then a else b, e') := by
  split
  · exact h1 ‹_›
  · exact h2 ‹_›
theorem aCg {a n : Int} (hn : 1 ≤ n ∧ n ≤ 1000) : 0 ≤ aqB a n ∧ aqB a n < n := by
  have h1 : Int.tmod a n < n ∧ -n < Int.tmod a n := by
    constructor
    · exact Int.tmod_lt_of_pos _ (by omega)
    · have h2 : Int.tmod (-a) n < n := Int.tmod_lt_of_pos _ (by omega)
      rw [Int.neg_tmod] at h2
      omega
  unfold aqB
  rw [if_neg (by omega)]
  split
  · rw [aaW (aaC (by omega))]; omega
  · omega
theorem awl (h : MI c e) {k : WorkS} (hk : awf c k) : awf c { k with c := abT w e k } ∧ aEY { k with c := abT w e k } = aEY k := by
  obtain ⟨a, b, d, x, g⟩ := k
  have ht := h.d.t
  cases g with
  | top =>
    unfold abT
    rw [h.cc]
    simp only
    split
    · exact ⟨trivial, rfl⟩
    · exact ⟨⟨aCg (by omega), trivial⟩, rfl⟩
  | _ => exact ⟨hk, rfl⟩
theorem aDo {k : WorkS} (h : MI c e) (hl : (e.m.cells.length : Int) = aba c) (hk : awf c k) : aro c e (aEY k) (acS w e k) := by
  have hB := awl (w := w) h hk
  unfold acS
  revert hB
  generalize abT w e k = kc
  intro ⟨h1, h2⟩
  rw [← h2]
  cases kc with
  | top => exact ⟨by rw [h2]; exact .same _ (.inl (.refl h)), hk⟩
  | t1 t s =>
    have := aA8 (w := w) h h1.1 s h1.2
    simp only
    revert this
    rcases abe w t e s with ⟨o, e'⟩
    intro this
    cases o with
    | go s => exact ⟨.same _ this.1, h1.1, this.2⟩
    | fin c0 v0 => exact ⟨.same _ this.1, trivial⟩
  | t2 s =>
    have := aDx (w := w) h s h1
    simp only
    revert this
    rcases aiz w e s with ⟨o, e'⟩
    intro this
    cases o with
    | go s => exact ⟨.same _ (.inl this.1), this.2⟩
    | fin c0 v0 => exact .ite1 (fun hc => ⟨.same none (.inl this.1), trivial⟩) fun _ => ⟨.same none (.inl this.1), fun h => (by cases h), trivial⟩
  | t3 s =>
    have := aCN (w := w) h s h1
    simp only
    revert this
    rcases abk w e s with ⟨o, e'⟩
    intro this
    cases o with
    | go s => exact ⟨.same _ (.inl this.1), this.2⟩
    | fin c0 v0 =>
      refine .ite1 (fun hc => ⟨.same none (.inl this.1), this.2 hc⟩) fun _ => .ite1 (fun _ => ⟨.same none (.inl this.1), trivial⟩) fun _ => ?_
      unfold axE
      split
      · exact ⟨.same none (.inl this.1), trivial⟩
      · exact ⟨.same none (.inl this.1), trivial⟩
  | t4 s =>
    have := aBV (w := w) h s
    simp only
    revert this
    rcases aj1 w e s with ⟨o, e'⟩
    intro this
    cases o with
    | go s => exact ⟨.same _ (.inl this), trivial⟩
    | fin c0 v0 => exact .ite1 (fun hc => ⟨.same none (.inl this), trivial⟩) fun _ => ⟨.same none (.inl this), trivial⟩
  | t5 s =>
    have := aBj (w := k.victim) (v := k.level) h s h1
    simp only
    rw [h.l]
    revert this
    rcases aec (aaj (aaz c) k.victim k.level) e s with ⟨o, e'⟩
    intro this
    cases o with
    | go s => exact ⟨.same _ (.inl this.1), this.2⟩
    | fin c0 v0 =>
      refine .ite (fun hc => ⟨.same none (.inl (this.1.em (this.2 hc) (by omega))), this.2 hc⟩) fun _ => .ite (fun _ => ⟨.same none (.inl this.1), trivial⟩) fun _ => ⟨.same none (.inl this.1), trivial⟩
  | t6 =>
    have h1 : TOk c k.x := h1
    exact .ite1 (fun _ => ⟨.same none (.inl (akr h h1)), trivial⟩) fun _ => ⟨.same none (.inl (akr h h1)), trivial⟩
  | t7 s =>
    have := aFl (w := w) h hl h1
    simp only
    revert this
    rcases ath w e s with ⟨o, e'⟩
    intro this
    cases o with
    | go s => exact this
    | fin c0 v0 => exact ⟨this.1, trivial⟩
  | t8 s =>
    have := aBp (w := w) h s
    simp only
    revert this
    rcases aga w e s with ⟨o, e'⟩
    intro this
    cases o with
    | go s => exact ⟨.same _ (.inl this), trivial⟩
    | fin c0 v0 => exact ⟨.same _ (.inl this), trivial⟩
  | t9 s =>
    have := awU (w := k.victim) (v := k.level) (a := k.victim) (b := k.level) h s
    simp only
    rw [h.l]
    revert this
    rcases agc (aaP (aaz c) k.victim) k.level (aaj (aaz c) k.victim k.level) e s with ⟨o, e'⟩
    intro this
    cases o with
    | go s => exact ⟨.same _ (.inl this), trivial⟩
    | fin c0 v0 => exact ⟨.same _ (.inl this), trivial⟩
def aC3 (c : Cfg) (k : ClieS) : Prop := 0 ≤ k.i ∧ match k.c with
  | .n4 => TOk c k.id
  | .n5 => TOk c k.id
  | .n6 => TOk c k.id
  | .a6 s => TOk c k.id ∧ anB c s
  | _ => True
def aF6 (subs : List Sub) (k : ClieS) : as9 := match k.c with
  | .n4 => some (k.id, (abY subs k.i).level, false)
  | .n5 => some (k.id, (abY subs k.i).level, true)
  | .n6 => some (k.id, (abY subs k.i).level, true)
  | .a6 _ => some (k.id, (abY subs k.i).level, true)
  | _ => none
def aul (c : Cfg) (e : EnvP) (p : as9) (o : Bool × ClieS × EnvP) : Prop := Tr c e o.2.2 p (aF6 c.subs o.2.1) ∧ aC3 c o.2.1
theorem aul.ite {p : as9} {P : Prop} [Decidable P] {a b : Bool × ClieS × EnvP} (h1 : P → aul c e p a) (h2 : ¬ P → aul c e p b) : aul c e p (if P then a else b) := by
  split
  · exact h1 ‹_›
  · exact h2 ‹_›
theorem ax9 {k : ClieS} {p : as9} (hi : 0 ≤ k.i ∧ k.i ≤ 1000) (h : Tr c e e' p none) : aul c e p (aya c.subs k e') := by
  have e1 : wi (k.i + 1) = k.i + 1 := aaW (aaC (by omega))
  exact ⟨h, by show 0 ≤ wi (k.i + 1); omega, trivial⟩
theorem aEM {k : ClieS} {me : Int} (h : MI c e) (hl : (e.m.cells.length : Int) = aba c) (hk : aC3 c k) : aul c e (aF6 c.subs k) (asQ c.subs me e k) := by
  have hsn := h.d.sn
  unfold asQ
  refine .ite (fun _ => ⟨.same _ (.inl (.refl h)), hk⟩) fun hi => ?_
  obtain ⟨i, id, acc, g⟩ := k
  obtain ⟨h0, h1⟩ := hk
  have h0 : 0 ≤ i := h0
  have hi : i < (c.subs.length : Int) := by have hi : ¬ (c.subs.length : Int) ≤ i := hi; omega
  have hs : (0 ≤ (abY c.subs i).level ∧ (abY c.subs i).level < c.levels) := (h.d.ss _ (av9 (α := Sub) (d := (dfR 4 : TR 4)) ⟨h0, hi⟩)).2.1
  have hz := TOk.zero h.d
  show aul c e _ (acO c.subs me e ⟨i, id, acc, g⟩ (abY c.subs i))
  cases g with
  | n1 =>
    simp only [acO]
    by_cases hh : e.hit 1 0 = true
    · rw [if_pos hh]; exact ⟨.same none (.inl (ass h)), h0, trivial⟩
    · rw [if_neg hh]; exact ⟨.same none (.inl (ass h)), h0, trivial⟩
  | a1 =>
    simp only [acO]
    by_cases hh : e.hit 1 0 = true
    · rw [if_pos hh]; exact ⟨.same none (.inl (ass h)), h0, trivial⟩
    · rw [if_neg hh]; exact ⟨.same none (.inl (ass h)), h0, trivial⟩
  | n2 =>
    simp only [acO]
    exact .ite (fun _ => ⟨.same none (.inl ((Qt.lk h).em hz (by omega))), h0, trivial⟩) fun _ => ⟨.same none (.inl (.lk h)), h0, trivial⟩
  | n3 =>
    simp only [acO]
    refine .ite (fun hn => ?_) fun _ => ⟨.al ((aAp h).1.em hz (by omega)), h0, trivial⟩
    have hn : TOk c (wi (e.gt 0)) := by unfold IsT at hn; rw [h.cc] at hn; exact hn
    have hp : 0 < (e.m.cells.length : Int) := by
      have := agA h.d
      have h4 := h.d.h
      have h5 := h.d.t
      rw [hl]; unfold aba; omega
    exact ⟨.al1 _ ((aAp h).2 hp).pr hn hs, h0, hn⟩
  | n4 =>
    have h1 : TOk c id := h1
    have hl2 := h.d.l
    have e1 : wu (abY c.subs i).level = (abY c.subs i).level := aeF (by omega)
    simp only [acO]
    rw [h.l, e1]
    refine ⟨.w0 _ _ (aDt h h1 hs ?_), h0, h1⟩
    have e2 := ahN h.d (t := id) (f := 1) (by omega)
    show ahc (aaz c) id 1 < _
    have h1 : 0 ≤ id ∧ id < c.tasks := h1
    rw [e2, if_pos h1, hl]
    unfold aba
    omega
  | n5 =>
    simp only [acO]
    rw [h.l]
    exact ⟨.same _ (.inl (.fr h (ano h.d) (ag1 _))), h0, h1⟩
  | n6 =>
    have h1 : TOk c id := h1
    have := avh (d := (abY c.subs i).deadline) h h1 .l1 trivial
    simp only [acO]
    revert this
    rcases acF (abY c.subs i).deadline id e .l1 with ⟨o, e'⟩
    intro this
    cases o with
    | go s => exact ⟨.same _ (.inl this.1), h0, h1, this.2⟩
    | fin c0 v0 => exact .ite (fun _ => ⟨.an _ _ (this.1.an (.inl rfl)), h0, trivial⟩) fun _ => ⟨.drop _ (.inl this.1), h0, trivial⟩
  | a6 s =>
    have h2 : TOk c id := h1.1
    have := avh (d := (abY c.subs i).deadline) h h2 s h1.2
    simp only [acO]
    revert this
    rcases acF (abY c.subs i).deadline id e s with ⟨o, e'⟩
    intro this
    cases o with
    | go s => exact ⟨.same _ (.inl this.1), h0, h2, this.2⟩
    | fin c0 v0 => exact .ite (fun _ => ⟨.an _ _ (this.1.an (.inl rfl)), h0, trivial⟩) fun _ => ⟨.drop _ (.inl this.1), h0, trivial⟩
  | n7 =>
    simp only [acO]
    rw [h.l]
    exact ⟨.same none (.inl (.fr h (agq h.d) (by omega))), h0, trivial⟩
  | n8 =>
    simp only [acO]
    exact .ite (fun _ => ⟨.same none (.inl (axL h)), h0, trivial⟩) fun _ => ax9 ⟨h0, by show i ≤ 1000; omega⟩ (.same none (.inl (axL h)))
  | n9 =>
    have := arE (w := me) (v := (abY c.subs i).level) h (.l1 0)
    simp only [acO]
    revert this
    rcases aej me (abY c.subs i).level e (.l1 0) with ⟨o, e'⟩
    intro this
    cases o with
    | go s => exact ⟨.same none (.inl this), h0, trivial⟩
    | fin c0 v0 => exact ax9 ⟨h0, by show i ≤ 1000; omega⟩ (.same none (.inl this))
  | a9 t =>
    have := arE (w := me) (v := (abY c.subs i).level) h t
    simp only [acO]
    revert this
    rcases aej me (abY c.subs i).level e t with ⟨o, e'⟩
    intro this
    cases o with
    | go s => exact ⟨.same none (.inl this), h0, trivial⟩
    | fin c0 v0 => exact ax9 ⟨h0, by show i ≤ 1000; omega⟩ (.same none (.inl this))
end
theorem MI.ex {c : Cfg} {e : EnvP} (h : MI c e) {k : ClkV} : MI c { e with k := k } := ⟨h.d, h.l, h.cc, h.ok⟩
theorem avl {c : Cfg} {a : Int} : (apf c).gt a = 0 := by
  show (apf c).m.gt a = 0
  unfold MemV.gt
  split
  · rename_i h
    exact List.eq_of_mem_replicate (av9 (α := Int) (d := (dfR 0 : TR 0)) h)
  · rfl
theorem aEq {c : Cfg} (h : DecOk c) : MI c (apf c) := by
  refine ⟨h, rfl, rfl, fun a => ?_⟩
  rw [avl]
  have h1 := h.t
  have h2 := h.l
  have h3 := (aqE h).2
  exact ⟨Int.le_refl 0, fun _ => h3, fun _ => by omega, fun _ => by omega⟩
end
end Go.Proofs.YtclaldommncdbaaGreat
