/- The reference's engine, said plainly: a new one, an entry, entries, stamped events. The reference's engine, said plainly, 2: a new one; stamped events. -/
import Derived.Test.YtpbkelpokpglaaaGreatQu
import Derived.Test.YtpbkelpokpglaaaGreatQq
set_option linter.all false
namespace Go.Proofs.YtpbkelpokpglaaaGreat
section
open Go
def pickM (x : EngV) (v : EntV) : EngV :=
  if v.kind = 0 then { x with e := (stepM x.e (atK15 x.m (drawV v.value x.m.length))).2.2, m := x.m.set (drawV v.value x.m.length).toNat (stepM x.e (atK15 x.m (drawV v.value x.m.length))).2.1 }
  else if v.kind = 1 then { x with e := { x.e with now := wi (x.e.now + 1) } }
  else if v.kind = 2 then { x with e := { x.e with draw := v.value } }
  else x
def doM (x : EngV) (v : EntV) : EngV :=
  { pickM x v with last := if x.e.m.count < (pickM x v).e.m.count then (pickM x v).e.m.last else ⟨0, 0, 0, 0⟩, stamps := x.stamps ++ List.replicate ((pickM x v).e.evs.length - x.stamps.length) x.n, n := wi (x.n + 1) }
def runL (x : EngV) : List EntV → EngV
  | [] => x
  | v :: l => runL (doM x v) l
def memSz (n : Int) : Int := if 0 < (if 131072 < n then 131072 else n) then (if 131072 < n then 131072 else n) else 0
def newE (c : Cfg) : EnvV := ⟨c, ⟨List.replicate (memSz (cellsA c)).toNat 0, ⟨0, 0, 0, 0⟩, 0⟩, 0, 0, List.replicate c.tasks.toNat (newRec 0 (-1)), []⟩
def workerF (c : Cfg) (w : Nat) : FrV := { frK 25 with line := 1, a := w, j := Int.tmod w c.tasks }
def newM (c : Cfg) : EngV := ⟨newE c, (List.range c.workers.toNat).map (fun w => ⟨[workerF c w], false, 0, 0⟩) ++ [⟨[{ frK 26 with line := 1 }], false, 0, 0⟩], 0, [], ⟨0, 0, 0, 0⟩⟩
/-- What holds of an engine behind K / 5 entries. -/
structure EngP (K : Nat) (x : EngV) : Prop where
  env : EnvOk K x.e
  ma : ∀ y ∈ x.m, MaOk K x.e.c y
  n1 : 1 ≤ x.m.length
  n2 : x.m.length ≤ 100
  st : x.e.evs.length ≤ x.stamps.length
  sl : x.stamps.length ≤ K
  mono : x.stamps.Pairwise (· ≤ ·)
  bd : ∀ s ∈ x.stamps, 0 ≤ s ∧ s ≤ x.n
  n : 0 ≤ x.n ∧ x.n ≤ K
section
variable {K : Nat} {x : EngV}
noncomputable def stF (self : EngV × Unit → Option (EngV × Unit)) (x : EngV × Unit) : Option (EngV × Unit) :=
  if ((x.1.stamps.length : Nat) : Int) < ((x.1.e.evs.length : Nat) : Int) then
    if (((x.1.stamps.length + ([x.1.n] : List Int).length : Nat)) : Int) < 1000000000000 then self (({ x.1 with stamps := x.1.stamps ++ ([x.1.n]) } : EngV), ()) else none
  else some (x.1, ())
noncomputable def tlF (y : EngV) : Option ((Unit) × (EngV × Unit)) := (lpF stF 18446744073709551616 (y, ())).bind fun z => some ((()), (({ z.1 with n := wi (z.1.n + 1) } : EngV), ()))
theorem do_unf (x : EngV) (v : EntV) : r28do x v =
  if v.kind = 0 then
    (r2draw v.value ((x.m.length : Nat) : Int)).bind fun r1 =>
    if 0 ≤ r1.1.1 ∧ r1.1.1 < ((x.m.length : Nat) : Int) then
      (r8machine_step (atK15 x.m r1.1.1) x.e).bind fun r2 =>
      if x.e.m.count < r2.2.2.1.m.count then tlF ({ x with e := r2.2.2.1, m := x.m.set r1.1.1.toNat r2.2.1, last := r2.2.2.1.m.last } : EngV)
      else tlF ({ x with e := r2.2.2.1, m := x.m.set r1.1.1.toNat r2.2.1, last := ⟨0, 0, 0, 0⟩ } : EngV)
    else none
  else if v.kind = 1 then
    if x.e.m.count < x.e.m.count then tlF ({ x with e := ({ x.e with now := wi (x.e.now + 1) } : EnvV), last := x.e.m.last } : EngV)
    else tlF ({ x with e := ({ x.e with now := wi (x.e.now + 1) } : EnvV), last := ⟨0, 0, 0, 0⟩ } : EngV)
  else if v.kind = 2 then
    if x.e.m.count < x.e.m.count then tlF ({ x with e := ({ x.e with draw := v.value } : EnvV), last := x.e.m.last } : EngV)
    else tlF ({ x with e := ({ x.e with draw := v.value } : EnvV), last := ⟨0, 0, 0, 0⟩ } : EngV)
  else
    if x.e.m.count < x.e.m.count then tlF ({ x with last := x.e.m.last } : EngV) else tlF ({ x with last := ⟨0, 0, 0, 0⟩ } : EngV) := by kernel_rfl
theorem stF_yes (G : EngV × Unit → Option (EngV × Unit)) (y : EngV) (h1 : y.stamps.length < y.e.evs.length) (h2 : y.stamps.length ≤ 999999999) : stF G (y, ()) = G (({ y with stamps := y.stamps ++ [y.n] } : EngV), ()) := by
  unfold stF
  have a1 : ((y.stamps.length : Nat) : Int) < ((y.e.evs.length : Nat) : Int) := by omega
  have a2 : (((y.stamps.length + ([y.n] : List Int).length : Nat)) : Int) < 1000000000000 := by rw [List.length_singleton]; omega
  simp only [a1, a2, if_true]
theorem stF_no (G : EngV × Unit → Option (EngV × Unit)) (y : EngV) (h1 : y.e.evs.length ≤ y.stamps.length) : stF G (y, ()) = some (y, ()) := by
  unfold stF
  have a1 : ¬ ((y.stamps.length : Nat) : Int) < ((y.e.evs.length : Nat) : Int) := by omega
  simp only [a1, if_false]
theorem stamp_loop : ∀ (j k : Nat) (y : EngV), y.e.evs.length - y.stamps.length = j → j < k → y.e.evs.length ≤ 999999999 → lpF stF k (y, ()) = some (({ y with stamps := y.stamps ++ List.replicate j y.n } : EngV), ()) := by
  intro j
  induction j with
  | zero =>
    intro k y hj hk hl
    obtain ⟨k, rfl⟩ : ∃ k', k = k' + 1 := ⟨k - 1, by omega⟩
    rw [lpF_succ, stF_no _ y (by omega)]
    simp
  | succ j ih =>
    intro k y hj hk hl
    obtain ⟨k, rfl⟩ : ∃ k', k = k' + 1 := ⟨k - 1, by omega⟩
    rw [lpF_succ, stF_yes _ y (by omega) (by omega)]
    have e1 : y.e.evs.length - (y.stamps ++ [y.n]).length = j := by rw [List.length_append, List.length_singleton]; omega
    rw [ih k ({ y with stamps := y.stamps ++ [y.n] } : EngV) e1 (by omega) hl]
    simp [List.replicate_succ]
theorem EngP.le {L : Nat} (h : EngP K x) (hl : K ≤ L) : EngP L x := ⟨h.env.le hl, fun y hy => (h.ma y hy).le hl, h.n1, h.n2, h.st, Nat.le_trans h.sl hl, h.mono, h.bd, h.n.1, by have := h.n.2; omega⟩
theorem EnvOk.nd {e e' : EnvV} (h : EnvOk K e) (h1 : e'.c = e.c) (h2 : e'.recs = e.recs) (h3 : e'.evs = e.evs) (h4 : Rg e'.now) (h5 : Rg e'.draw) : EnvOk K e' := ⟨h1 ▸ h.cf, by rw [h1, h2]; exact h.rcs, by rw [h3]; exact h.evs, h4, h5⟩
theorem pick_in (h : EngP K x) (v : EntV) : 0 ≤ drawV v.value x.m.length ∧ drawV v.value x.m.length < (x.m.length : Int) := drawV_rg (by have := h.n1; omega) (by have := h.n2; omega)
theorem pick_inv (h : EngP K x) {v : EntV} (hv : Rg v.value) (hK1 : 1 ≤ K) (hK : K ≤ 700000000) : EnvOk (K + 5) (pickM x v).e ∧ (∀ y ∈ (pickM x v).m, MaOk (K + 5) x.e.c y) ∧ (pickM x v).m.length = x.m.length ∧ (pickM x v).e.c = x.e.c ∧ (pickM x v).stamps = x.stamps ∧ (pickM x v).n = x.n ∧ (pickM x v).e.m.cells.length = x.e.m.cells.length := by
  have h5 := h.le (Nat.le_add_right K 5)
  unfold pickM
  split
  · obtain ⟨_, hs⟩ := step_eq (h.ma _ (at_in (d := dfR 15) (pick_in h v))) h.env hK1 (by omega)
    refine ⟨hs.env, fun y hy => ?_, by simp, hs.c, rfl, rfl, hs.len⟩
    rcases mem_set hy with rfl | hy
    · exact hs.ma
    · exact h5.ma y hy
  split
  · exact ⟨h5.env.nd rfl rfl rfl (rg_wi _) h.env.draw, h5.ma, rfl, rfl, rfl, rfl, rfl⟩
  split
  · exact ⟨h5.env.nd rfl rfl rfl h.env.now hv, h5.ma, rfl, rfl, rfl, rfl, rfl⟩
  · exact ⟨h5.env, h5.ma, rfl, rfl, rfl, rfl, rfl⟩
theorem do_inv (h : EngP K x) {v : EntV} (hv : Rg v.value) (hK1 : 1 ≤ K) (hK : K ≤ 700000000) : EngP (K + 5) (doM x v) ∧ (doM x v).e.c = x.e.c ∧ (doM x v).m.length = x.m.length ∧ (doM x v).e.m.cells.length = x.e.m.cells.length := by
  obtain ⟨h1, h2, h3, h4, h5, h6, h7⟩ := pick_inv h hv hK1 hK
  have hn : wi (x.n + 1) = x.n + 1 := wi_id (rg_lit (by have := h.n; omega))
  have hev := h1.evs.1
  have hsl := h.sl
  refine ⟨⟨h1, fun y hy => by rw [show (doM x v).e.c = x.e.c from h4]; exact h2 y hy, h3 ▸ h.n1, h3 ▸ h.n2, ?_, ?_, ?_, ?_, ?_⟩, h4, h3, h7⟩
  · show (pickM x v).e.evs.length ≤ (x.stamps ++ List.replicate _ x.n).length
    simp; omega
  · show (x.stamps ++ List.replicate _ x.n).length ≤ K + 5
    simp; omega
  · show (x.stamps ++ List.replicate _ x.n).Pairwise (· ≤ ·)
    refine List.pairwise_append.2 ⟨h.mono, List.pairwise_replicate.2 (.inr (Int.le_refl _)), fun a ha b hb => ?_⟩
    rw [(List.mem_replicate.1 hb).2]; exact (h.bd a ha).2
  · show ∀ s ∈ x.stamps ++ List.replicate _ x.n, 0 ≤ s ∧ s ≤ wi (x.n + 1)
    intro s hs
    rw [hn]
    rcases List.mem_append.1 hs with hs | hs
    · have := h.bd s hs; omega
    · rw [(List.mem_replicate.1 hs).2]; have := h.n; omega
  · show 0 ≤ wi (x.n + 1) ∧ wi (x.n + 1) ≤ ((K + 5 : Nat) : Int)
    rw [hn]; have := h.n; omega
/-- The end of an entry: the last access, the stamps. -/
theorem do_tail (h : EngP K x) (y : EngV) (hy : y.e.evs.length ≤ K + 5) (h1 : y.n = x.n) (h2 : y.stamps = x.stamps) (hK : K ≤ 700000000) :
    tlF y = some ((()), (({ y with stamps := x.stamps ++ List.replicate (y.e.evs.length - x.stamps.length) x.n, n := wi (x.n + 1) } : EngV), ())) := by
  unfold tlF
  rw [stamp_loop (y.e.evs.length - y.stamps.length) 18446744073709551616 y rfl (by omega) (by omega)]
  simp only [Option.bind_some, h1, h2]
theorem do_eq (h : EngP K x) {v : EntV} (hv : Rg v.value) (hK1 : 1 ≤ K) (hK : K ≤ 700000000) : r28do x v = some ((()), (doM x v, ())) := by
  obtain ⟨q1, q2, q3, q4, q5, q6, _⟩ := pick_inv h hv hK1 hK
  have hev := q1.evs.1
  have tl : ∀ a : AccV, tlF { pickM x v with last := a } = some ((()), (({ pickM x v with last := a, stamps := x.stamps ++ List.replicate ((pickM x v).e.evs.length - x.stamps.length) x.n, n := wi (x.n + 1) } : EngV), ())) := fun a => do_tail h { pickM x v with last := a } hev q6 q5 hK
  have hlt : ¬ x.e.m.count < x.e.m.count := by omega
  rw [do_unf]
  unfold doM
  by_cases k0 : v.kind = 0
  · have hi := pick_in h v
    obtain ⟨hs, _⟩ := step_eq (h.ma _ (at_in (d := dfR 15) hi)) h.env hK1 (by omega)
    have hp : pickM x v = { x with e := (stepM x.e (atK15 x.m (drawV v.value x.m.length))).2.2, m := x.m.set (drawV v.value x.m.length).toNat (stepM x.e (atK15 x.m (drawV v.value x.m.length))).2.1 } := by unfold pickM; rw [if_pos k0]
    have hs' : r8machine_step (atK15 x.m (drawV v.value ((x.m.length : Nat) : Int))) x.e = some (((stepM x.e (atK15 x.m (drawV v.value x.m.length))).1, ()), ((stepM x.e (atK15 x.m (drawV v.value x.m.length))).2.1, (stepM x.e (atK15 x.m (drawV v.value x.m.length))).2.2, ())) := hs
    rw [if_pos k0]
    simp only [r2draw_eq, Option.bind_some, hs']
    rw [if_pos hi]
    rw [hp] at tl ⊢
    generalize stepM x.e (atK15 x.m (drawV v.value x.m.length)) = w at tl ⊢
    by_cases hc : x.e.m.count < w.2.2.m.count
    · rw [if_pos hc, if_pos hc]; exact tl _
    · rw [if_neg hc, if_neg hc]; exact tl _
  rw [if_neg k0]
  by_cases k1 : v.kind = 1
  · have hp : pickM x v = { x with e := { x.e with now := wi (x.e.now + 1) } } := by unfold pickM; rw [if_neg k0, if_pos k1]
    rw [if_pos k1, if_neg hlt]
    rw [hp] at tl ⊢
    rw [if_neg hlt]; exact tl _
  rw [if_neg k1]
  by_cases k2 : v.kind = 2
  · have hp : pickM x v = { x with e := { x.e with draw := v.value } } := by unfold pickM; rw [if_neg k0, if_neg k1, if_pos k2]
    rw [if_pos k2, if_neg hlt]
    rw [hp] at tl ⊢
    rw [if_neg hlt]; exact tl _
  rw [if_neg k2]
  have hp : pickM x v = x := by unfold pickM; rw [if_neg k0, if_neg k1, if_neg k2]
  rw [if_neg hlt]
  rw [hp] at tl ⊢
  rw [if_neg hlt]; exact tl _
theorem runL_inv : ∀ (l : List EntV) (K : Nat) (x : EngV), EngP K x → (∀ v ∈ l, Rg v.value) → 1 ≤ K → K + 5 * l.length ≤ 700000000 → EngP (K + 5 * l.length) (runL x l) ∧ (runL x l).e.c = x.e.c ∧ (runL x l).m.length = x.m.length ∧ (runL x l).e.m.cells.length = x.e.m.cells.length := by
  intro l
  induction l with
  | nil => exact fun K x h _ _ _ => ⟨h, rfl, rfl, rfl⟩
  | cons v l ih =>
    intro K x h hv hK1 hK
    rw [List.length_cons] at hK
    obtain ⟨h1, h2, h3, h4⟩ := do_inv h (hv v (List.mem_cons_self ..)) hK1 (by omega)
    obtain ⟨g1, g2, g3, g4⟩ := ih (K + 5) (doM x v) h1 (fun u hu => hv u (List.mem_cons_of_mem _ hu)) (by omega) (by omega)
    rw [List.length_cons, show K + 5 * (l.length + 1) = K + 5 + 5 * l.length by omega]
    exact ⟨g1, g2.trans h2, g3.trans h3, g4.trans h4⟩
noncomputable def rnF (l0 : List EntV) (self : Int × EngV × Unit → Option (Int × EngV × Unit)) (x : Int × EngV × Unit) : Option (Int × EngV × Unit) :=
  if x.1 < ((l0.length : Nat) : Int) then (if 0 ≤ x.1 ∧ x.1 < ((l0.length : Nat) : Int) then (r28do x.2.1 (atK5 l0 x.1)).bind fun r => self (wi (x.1 + 1), r.2.1, ()) else none) else some (x.1, x.2.1, ())
theorem run_unf (x : EngV) (l : List EntV) : r28run x l = (lpF (rnF l) 18446744073709551616 (0, x, ())).bind fun z2 => some ((()), (z2.2.1, ())) := by kernel_rfl
theorem rnF_yes (l0 : List EntV) (G : Int × EngV × Unit → Option (Int × EngV × Unit)) (i : Nat) (x : EngV) (v : EntV) (y : EngV) (h : l0[i]? = some v) (hl : l0.length ≤ 1000000000) (hd : r28do x v = some ((()), (y, ()))) : rnF l0 G ((i : Int), x, ()) = G (((i + 1 : Nat) : Int), y, ()) := by
  have hlt := (List.getElem?_eq_some_iff.1 h).1
  have a1 : (i : Int) < ((l0.length : Nat) : Int) := by omega
  have a2 : 0 ≤ (i : Int) ∧ (i : Int) < ((l0.length : Nat) : Int) := by omega
  have hv0 : atK5 l0 (i : Int) = v := by simp [atK5, atL, h]; rfl
  have e1 : wi ((i : Int) + 1) = ((i + 1 : Nat) : Int) := by rw [wi_id (rg_lit (by omega))]; omega
  unfold rnF
  simp only [a1, a2, if_true, and_self, hv0, hd, Option.bind_some, e1]
theorem rnF_no (l0 : List EntV) (G : Int × EngV × Unit → Option (Int × EngV × Unit)) (i : Nat) (x : EngV) (h : l0.length ≤ i) : rnF l0 G ((i : Int), x, ()) = some ((i : Int), x, ()) := by
  have a1 : ¬ (i : Int) < ((l0.length : Nat) : Int) := by omega
  unfold rnF
  simp only [a1, if_false]
theorem run_loop {l0 : List EntV} (hl0 : l0.length ≤ 1000000000) :
    ∀ (l : List EntV) (K n i : Nat) (x : EngV), EngP K x → (∀ v ∈ l, Rg v.value) → 1 ≤ K → K + 5 * l.length ≤ 700000000 → l0.drop i = l → i ≤ l0.length → l.length < n → lpF (rnF l0) n ((i : Int), x, ()) = some ((l0.length : Int), runL x l, ()) := by
  intro l
  induction l with
  | nil =>
    intro K n i x _ _ _ _ hd hi hn
    obtain ⟨n, rfl⟩ : ∃ k', n = k' + 1 := ⟨n - 1, by simp at hn; omega⟩
    have h1 : l0.length ≤ i := List.drop_eq_nil_iff.1 hd
    rw [lpF_succ, rnF_no _ _ _ _ h1, show (i : Int) = (l0.length : Int) by omega]; rfl
  | cons v l ih =>
    intro K n i x h hv hK1 hK hd hi hn
    rw [List.length_cons] at hK hn
    obtain ⟨n, rfl⟩ : ∃ k', n = k' + 1 := ⟨n - 1, by omega⟩
    have hlt : i < l0.length := by
      rcases Nat.lt_or_ge i l0.length with h | h
      · exact h
      · rw [List.drop_eq_nil_iff.2 h] at hd; cases hd
    have hvi : l0[i]? = some v := by rw [← List.head?_drop, hd]; rfl
    have hvr := hv v (List.mem_cons_self ..)
    rw [lpF_succ, rnF_yes l0 _ i x v _ hvi hl0 (do_eq h hvr hK1 (by omega))]
    exact ih (K + 5) n (i + 1) (doM x v) (do_inv h hvr hK1 (by omega)).1 (fun u hu => hv u (List.mem_cons_of_mem _ hu)) (by omega) (by omega)
      (by rw [← List.drop_drop, hd]; rfl) (by omega) (by omega)
theorem run_eq' (h : EngP K x) {l : List EntV} (hv : ∀ v ∈ l, Rg v.value) (hK1 : 1 ≤ K) (hK : K + 5 * l.length ≤ 700000000) : r28run x l = some ((()), (runL x l, ())) := by
  rw [run_unf]
  have := run_loop (l0 := l) (by omega) l K 18446744073709551616 0 x h hv hK1 hK rfl (Nat.zero_le _) (by omega)
  rw [show ((0 : Nat) : Int) = 0 from rfl] at this
  rw [this]; rfl
end
end
section
open Go
theorem memSz_rg (n : Int) : 0 ≤ memSz n ∧ memSz n ≤ 131072 := by
  unfold memSz
  repeat' split
  all_goals omega
theorem r2new_eq (n : Int) : r2new n = some (((⟨List.replicate (memSz n).toNat 0, ⟨0, 0, 0, 0⟩, 0⟩ : MemV), ()), ()) := by
  have h := memSz_rg n
  have h2 : 0 ≤ memSz n ∧ memSz n ≤ 1099511627776 := by omega
  have e : r2new n = if memSz n = memSz n then (if 0 ≤ memSz n ∧ memSz n ≤ 1099511627776 then some (((⟨List.replicate (memSz n).toNat 0, ⟨0, 0, 0, 0⟩, 0⟩ : MemV), ()), ()) else none) else none := rfl
  rw [e, if_pos rfl, if_pos h2]
noncomputable def nrF (N : Int) (c : Cfg) (self : Int × EnvV × Unit → Option (Int × EnvV × Unit)) (x : Int × EnvV × Unit) : Option (Int × EnvV × Unit) :=
  if x.1 < c.tasks then
    (r8fresh 0 (-1)).bind fun r6 =>
    if (((x.2.1.recs.length + ([r6.1.1] : List RecV).length : Nat)) : Int) < N then self (wi (x.1 + 1), ({ x.2.1 with recs := x.2.1.recs ++ ([r6.1.1]) } : EnvV), ()) else none
  else some (x.1, x.2.1, ())
theorem nrF_yes (N : Int) (hN : 1000000 ≤ N) (c : Cfg) (G : Int × EnvV × Unit → Option (Int × EnvV × Unit)) (i : Nat) (e : EnvV) (h : (i : Int) < c.tasks) (hc : c.tasks ≤ 65535) (hr : e.recs.length = i) : nrF N c G ((i : Int), e, ()) = G (((i + 1 : Nat) : Int), ({ e with recs := e.recs ++ [newRec 0 (-1)] } : EnvV), ()) := by
  have e1 : wi ((i : Int) + 1) = ((i + 1 : Nat) : Int) := by rw [wi_id (rg_lit (by omega))]; omega
  have a2 : (((e.recs.length + ([newRec 0 (-1)] : List RecV).length : Nat)) : Int) < N := by rw [List.length_singleton]; omega
  have a3 : r8fresh 0 (-1) = some (((newRec 0 (-1)), ()), ()) := rfl
  unfold nrF
  rw [if_pos h, a3]
  simp only [Option.bind_some]
  rw [if_pos a2, e1]
theorem nrF_no (N : Int) (c : Cfg) (G : Int × EnvV × Unit → Option (Int × EnvV × Unit)) (i : Nat) (e : EnvV) (h : c.tasks ≤ (i : Int)) : nrF N c G ((i : Int), e, ()) = some ((i : Int), e, ()) := by
  have a1 : ¬ (i : Int) < c.tasks := by omega
  unfold nrF
  simp only [a1, if_false]
theorem nr_loop {N : Int} (hN : 1000000 ≤ N) {c : Cfg} (hc : c.tasks ≤ 65535) (e : EnvV) : ∀ (j k i : Nat), (c.tasks - i).toNat = j → (i : Int) ≤ c.tasks → j < k → lpF (nrF N c) k ((i : Int), ({ e with recs := List.replicate i (newRec 0 (-1)) } : EnvV), ()) = some (c.tasks, ({ e with recs := List.replicate c.tasks.toNat (newRec 0 (-1)) } : EnvV), ()) := by
  intro j
  induction j with
  | zero =>
    intro k i hj hi hk
    obtain ⟨k, rfl⟩ : ∃ k', k = k' + 1 := ⟨k - 1, by omega⟩
    rw [lpF_succ, nrF_no _ _ _ _ _ (by omega), show (i : Int) = c.tasks by omega, show c.tasks.toNat = i by omega]
  | succ j ih =>
    intro k i hj hi hk
    obtain ⟨k, rfl⟩ : ∃ k', k = k' + 1 := ⟨k - 1, by omega⟩
    rw [lpF_succ, nrF_yes _ hN _ _ _ _ (by omega) hc (by simp)]
    have := ih k (i + 1) (by omega) (by omega) (by omega)
    rw [List.replicate_succ'] at this
    exact this
theorem r8new_unf (cf : Cfg) : r8new cf = (r6cells cf).bind fun r1 => if cf.workers = cf.workers then if cf.levels = cf.levels then if cf.classes = cf.classes then if cf.tasks = cf.tasks then if cf.deque = cf.deque then if cf.heap = cf.heap then if cf.batch = cf.batch then if cf.age = cf.age then if cf.patience = cf.patience then
    (r2new r1.1.1).bind fun r2 => if cf.workers = cf.workers then if cf.levels = cf.levels then if cf.classes = cf.classes then if cf.tasks = cf.tasks then if cf.deque = cf.deque then if cf.heap = cf.heap then if cf.batch = cf.batch then if cf.age = cf.age then if cf.patience = cf.patience then
    (lpF (nrF 100000000000 cf) 18446744073709551616 (0, (⟨cf, r2.1.1, 0, 0, [], []⟩ : EnvV), ())).bind fun z4 => some ((z4.2.1, ()), (()))
    else none else none else none else none else none else none else none else none else none else none else none else none else none else none else none else none else none else none := by kernel_rfl
theorem r8new_eq {c : Cfg} (hc : CfgOk c) : r8new c = some ((newE c, ()), ()) := by
  rw [r8new_unf]
  simp only [r6cells_eq, r2new_eq, Option.bind_some, if_true]
  have := nr_loop (N := 100000000000) (by decide) (c := c) hc.t2 ⟨c, ⟨List.replicate (memSz (cellsA c)).toNat 0, ⟨0, 0, 0, 0⟩, 0⟩, 0, 0, [], []⟩ c.tasks.toNat 18446744073709551616 0 (by omega) (by have := hc.t1; omega) (by have := hc.t2; omega)
  rw [show ((0 : Nat) : Int) = 0 from rfl] at this
  simp only [List.replicate_zero] at this
  rw [this]; rfl
noncomputable def nwF (N : Int) (c : Cfg) (self : Int × EngV × Unit → Option (Int × EngV × Unit)) (x : Int × EngV × Unit) : Option (Int × EngV × Unit) :=
  if x.1 < c.workers then
    if c.tasks ≠ 0 then
      (r8make (⟨25, 0, ⟨0, 0, 0, 0⟩, x.1, 0, 0, 0, (Int.tmod x.1 c.tasks), 0, 0, 0, 0, 0, 0, []⟩ : FrV)).bind fun r5 =>
      if (((x.2.1.m.length + ([r5.1.1] : List MaV).length : Nat)) : Int) < N then self (wi (x.1 + 1), ({ x.2.1 with m := x.2.1.m ++ ([r5.1.1]) } : EngV), ()) else none
    else none
  else some (x.1, x.2.1, ())
theorem make_eq (f : FrV) (h : f.kind ≠ 22) : r8make f = some (((⟨[{ f with line := 1 }], false, 0, 0⟩ : MaV), ()), ()) := by
  unfold r8make; rw [if_neg h]
theorem nwF_yes (N : Int) (hN : 1000000 ≤ N) (c : Cfg) (G : Int × EngV × Unit → Option (Int × EngV × Unit)) (i : Nat) (x : EngV) (h : (i : Int) < c.workers) (hc : CfgOk c) (hr : x.m.length = i) : nwF N c G ((i : Int), x, ()) = G (((i + 1 : Nat) : Int), ({ x with m := x.m ++ [⟨[workerF c i], false, 0, 0⟩] } : EngV), ()) := by
  have w2 := hc.w2
  have e1 : wi ((i : Int) + 1) = ((i + 1 : Nat) : Int) := by rw [wi_id (rg_lit (by omega))]; omega
  have a2 : (((x.m.length + ([⟨[workerF c i], false, 0, 0⟩] : List MaV).length : Nat)) : Int) < N := by rw [List.length_singleton]; omega
  have a3 : r8make (⟨25, 0, ⟨0, 0, 0, 0⟩, (i : Int), 0, 0, 0, (Int.tmod (i : Int) c.tasks), 0, 0, 0, 0, 0, 0, []⟩ : FrV) = some (((⟨[workerF c i], false, 0, 0⟩ : MaV), ()), ()) := make_eq _ (show (25 : Int) ≠ 22 by decide)
  have a4 : c.tasks ≠ 0 := by have := hc.t1; omega
  unfold nwF
  rw [if_pos h, if_pos a4, a3]
  simp only [Option.bind_some]
  rw [if_pos a2, e1]
theorem nwF_no (N : Int) (c : Cfg) (G : Int × EngV × Unit → Option (Int × EngV × Unit)) (i : Nat) (x : EngV) (h : c.workers ≤ (i : Int)) : nwF N c G ((i : Int), x, ()) = some ((i : Int), x, ()) := by
  have a1 : ¬ (i : Int) < c.workers := by omega
  unfold nwF
  simp only [a1, if_false]
theorem nw_loop {N : Int} (hN : 1000000 ≤ N) {c : Cfg} (hc : CfgOk c) (x : EngV) : ∀ (j k i : Nat), (c.workers - i).toNat = j → (i : Int) ≤ c.workers → j < k → lpF (nwF N c) k ((i : Int), ({ x with m := (List.range i).map (fun w => ⟨[workerF c w], false, 0, 0⟩) } : EngV), ()) = some (c.workers, ({ x with m := (List.range c.workers.toNat).map (fun w => ⟨[workerF c w], false, 0, 0⟩) } : EngV), ()) := by
  have w2 := hc.w2
  intro j
  induction j with
  | zero =>
    intro k i hj hi hk
    obtain ⟨k, rfl⟩ : ∃ k', k = k' + 1 := ⟨k - 1, by omega⟩
    rw [lpF_succ, nwF_no _ _ _ _ _ (by omega), show (i : Int) = c.workers by omega, show c.workers.toNat = i by omega]
  | succ j ih =>
    intro k i hj hi hk
    obtain ⟨k, rfl⟩ : ∃ k', k = k' + 1 := ⟨k - 1, by omega⟩
    rw [lpF_succ, nwF_yes _ hN _ _ _ _ (by omega) hc (by simp)]
    have := ih k (i + 1) (by omega) (by omega) (by omega)
    rw [List.range_succ, List.map_append] at this
    exact this
noncomputable def nwT (N : Int) (x : EngV) : Option ((EngV × Unit) × Unit) := (r8make (⟨26, 0, ⟨0, 0, 0, 0⟩, 0, 0, 0, 0, 0, 0, 0, 0, 0, 0, 0, []⟩ : FrV)).bind fun r6 =>
    if (((x.m.length + ([r6.1.1] : List MaV).length : Nat)) : Int) < N then some ((({ x with m := x.m ++ ([r6.1.1]) } : EngV), ()), (())) else none
theorem nwT_eq (N : Int) (hN : 1000000 ≤ N) (x : EngV) (h : x.m.length ≤ 1000) : nwT N x = some ((({ x with m := x.m ++ [⟨[{ frK 26 with line := 1 }], false, 0, 0⟩] } : EngV), ()), (())) := by
  have hm : r8make (⟨26, 0, ⟨0, 0, 0, 0⟩, 0, 0, 0, 0, 0, 0, 0, 0, 0, 0, 0, []⟩ : FrV) = some (((⟨[{ frK 26 with line := 1 }], false, 0, 0⟩ : MaV), ()), ()) := make_eq _ (show (26 : Int) ≠ 22 by decide)
  have a2 : (((x.m.length + ([⟨[{ frK 26 with line := 1 }], false, 0, 0⟩] : List MaV).length : Nat)) : Int) < N := by rw [List.length_singleton]; omega
  unfold nwT
  rw [hm]
  simp only [Option.bind_some]
  rw [if_pos a2]
theorem new_unf (c : Cfg) : r28new c = (r8new c).bind fun r1 => (lpF (nwF 100000000000 c) 18446744073709551616 (0, (⟨r1.1.1, [], 0, [], ⟨0, 0, 0, 0⟩⟩ : EngV), ())).bind fun z3 => nwT 100000000000 z3.2.1 := by kernel_rfl
theorem new_eq {c : Cfg} (hc : CfgOk c) : r28new c = some ((newM c, ()), ()) := by
  have w1 := hc.w1
  have w2 := hc.w2
  have h1 : (r8new c) = some ((newE c, ()), ()) := r8new_eq hc
  have this : lpF (nwF 100000000000 c) 18446744073709551616 (0, (⟨newE c, [], 0, [], ⟨0, 0, 0, 0⟩⟩ : EngV), ()) = some (c.workers, (⟨newE c, (List.range c.workers.toNat).map (fun w => ⟨[workerF c w], false, 0, 0⟩), 0, [], ⟨0, 0, 0, 0⟩⟩ : EngV), ()) := 
    nw_loop (N := 100000000000) (by decide) hc ⟨newE c, [], 0, [], ⟨0, 0, 0, 0⟩⟩ c.workers.toNat 18446744073709551616 0 (by omega) (by omega) (by omega)
  have h2 : nwT 100000000000 (⟨newE c, (List.range c.workers.toNat).map (fun w => ⟨[workerF c w], false, 0, 0⟩), 0, [], ⟨0, 0, 0, 0⟩⟩ : EngV) = some ((newM c, ()), ()) := nwT_eq _ (by decide) _ (by simp; omega)
  refine (new_unf c).trans ?_
  generalize 100000000000 = N at this h2 ⊢
  rw [h1, Option.bind_some]
  dsimp only
  rw [this, Option.bind_some]
  exact h2
theorem new_inv {c : Cfg} (hc : CfgOk c) : EngP 1 (newM c) := by
  have w1 := hc.w1
  have w2 := hc.w2
  have t1 := hc.t1
  have t2 := hc.t2
  refine ⟨⟨hc, ⟨by simp [newM, newE]; omega, fun r hr => ?_⟩, ⟨Nat.zero_le _, fun e he => by cases he⟩, rg0, rg0⟩, fun y hy => ?_, by simp [newM], by simp [newM]; omega, Nat.zero_le _, Nat.zero_le _, List.Pairwise.nil, fun s hs => (by cases hs), ⟨Int.le_refl 0, by show (0 : Int) ≤ 1; decide⟩⟩
  · rw [(List.mem_replicate.1 hr).2]
    exact ⟨Nat.zero_le _, fun x hx => by cases hx⟩
  · rcases List.mem_append.1 hy with hy | hy
    · obtain ⟨w, hw, rfl⟩ := List.mem_map.1 hy
      rw [List.mem_range] at hw
      have hw2 : Rg (w : Int) := rg_lit (by omega)
      have hw3 : Rg (Int.tmod (w : Int) c.tasks) := tmod_rg t1 (by omega)
      refine .inr ⟨workerF c w, [], rfl, ?_, topOk_of (by show (25 : Int) ≠ 24; decide) (by show (25 : Int) ≠ 26; decide) (by show (25 : Int) ≠ 21; decide), trivial, fun p hp => by cases hp⟩
      constructor <;> (try dsimp only [workerF, frK]) <;> first | exact hw2 | exact hw3 | exact rg0 | exact Nat.zero_le _ | (intro x hx; cases hx; done) | decide
    · rw [List.mem_singleton] at hy
      subst hy
      refine .inr ⟨{ frK 26 with line := 1 }, [], rfl, ?_, ⟨fun e => (by cases e), fun _ => ⟨Int.le_refl 0, by show (0 : Int) ≤ (c.subs.length : Int); omega⟩, fun e => by cases e⟩, trivial, fun p hp => by cases hp⟩
      constructor <;> (try dsimp only [frK]) <;> first | exact rg0 | exact Nat.zero_le _ | (intro x hx; cases hx; done) | decide
/-! ### Stamped events -/
end
end Go.Proofs.YtpbkelpokpglaaaGreat
