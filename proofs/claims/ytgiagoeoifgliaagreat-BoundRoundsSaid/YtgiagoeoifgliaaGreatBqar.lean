/- The program's machines do what was said plainly, 2: probing. What a step of the program's machines leaves of the environment: at most one access, few events, records of the same number. The program's machines do what was said plainly, 3: the machines that run others inside. The program's machines do what was said plainly: a sweep. The program's machines do what was said plainly, 4: a drain. The program's machines do what was said plainly, 5: running a task: parts. The program's machines do what was said plainly, 6: running a task: lines. The program's machines do what was said plainly, 7: running a task. -/
import Derived.Test.YtgiagoeoifgliaaGreatBqaq
set_option linter.all false
namespace Go.Proofs.YtgiagoeoifgliaaGreat
section
open Go Go.RowKit
set_option maxRecDepth 100000
section
variable {e : EnvP}
theorem pass_eq {x : ProbeV} {n : Int} (hn : 1 ≤ n) : probeProbePass x n = some ((decide (n ≤ passP x.worker n x.start x.next), ()), ({ x with next := passP x.worker n x.start x.next }, ())) := by
  unfold probeProbePass passP
  have h0 : n ≠ 0 := by omega
  by_cases h : x.next < n
  · by_cases h2 : Int.tmod (wi (x.start + x.next)) n = x.worker
    · simp only [h, h0, h2, ne_eq, not_false_eq_true, if_true, decide_true, Option.bind_some, and_self]
    · simp only [h, h0, h2, ne_eq, not_false_eq_true, if_true, decide_false, Option.bind_some, and_false, if_false, Bool.false_eq_true]
  · simp only [h, false_and, if_false, Option.bind_some, Bool.false_eq_true]
theorem many_rg (h : 1 ≤ e.c.workers) : 1 ≤ manyP e ∧ manyP e ≤ 16 := by
  unfold manyP
  split <;> omega
theorem tmod_in {a n : Int} (hn : 1 ≤ n) (ha : 0 ≤ a) : 0 ≤ Int.tmod a n ∧ Int.tmod a n < n := by
  rw [Int.tmod_eq_emod_of_nonneg ha]
  exact ⟨Int.emod_nonneg _ (by omega), Int.emod_lt_of_pos _ (by omega)⟩
/-- The loop of the choice. -/
theorem pick_loop {w s : Int} {n : Int} (hn : 1 ≤ n ∧ n ≤ 16) (hs : 0 ≤ s ∧ s ≤ 100) (st : Int) (hst : modP st n = s) (x : ProbeV) (hx : x.start = st) (F : (Int × Int × Int × ProbeV × Unit → Option (Int × Int × Int × ProbeV × Unit)) → Int × Int × Int × ProbeV × Unit → Option (Int × Int × Int × ProbeV × Unit))
    (hF : ∀ self a b i, 0 ≤ i → i ≤ 16 → F self (a, b, i, x, ()) = if i < n then (if Int.tmod (wi (s + i)) n ≠ w ∧ b < highP (x.bm.at (Int.tmod (wi (s + i)) n)) then self (Int.tmod (wi (s + i)) n, highP (x.bm.at (Int.tmod (wi (s + i)) n)), wi (i + 1), x, ()) else self (a, b, wi (i + 1), x, ())) else some (a, b, i, x, ())) :
    ∀ (k fuel : Nat) (i a b : Int), 0 ≤ i → (i + (k : Int) = n) → k < fuel → lpF F fuel (a, b, i, x, ()) = some ((pickP w n s x.bm k i (a, b)).1, (pickP w n s x.bm k i (a, b)).2, n, x, ()) := by
  intro k
  induction k with
  | zero =>
    intro fuel i a b h0 hi hf
    obtain ⟨fuel, rfl⟩ : ∃ f, fuel = f + 1 := ⟨fuel - 1, by omega⟩
    show F (lpF F fuel) _ = _
    rw [hF _ _ _ _ h0 (by omega), if_neg (by omega)]
    have : i = n := by omega
    subst this
    rfl
  | succ k ih =>
    intro fuel i a b h0 hi hf
    obtain ⟨fuel, rfl⟩ : ∃ f, fuel = f + 1 := ⟨fuel - 1, by omega⟩
    show F (lpF F fuel) _ = _
    rw [hF _ _ _ _ h0 (by omega), if_pos (by omega)]
    have e1 : wi (i + 1) = i + 1 := wi_id (rg_lit (by omega))
    rw [e1]
    unfold pickP
    split
    · exact ih fuel (i + 1) _ _ (by omega) (by omega) (by omega)
    · exact ih fuel (i + 1) _ _ (by omega) (by omega) (by omega)
theorem SimR.bind {σ X α : Type} {og : X → OutV} {mk : σ → X} {r : Rs σ × EnvP} {A : Option α} {f : α → Option ((Bool × Unit) × (X × EnvP × Unit))} {z : α} (h : A = some z) (h2 : SimR og mk (f z) r) : SimR og mk (A.bind f) r := by rw [h]; exact h2
theorem bind_eq {α β : Type} {A : Option α} {f : α → Option β} {z : α} (h : A = some z) : A.bind f = f z := by rw [h]; rfl
theorem SimR.ite' {σ X : Type} {og : X → OutV} {mk : σ → X} {a b : Option ((Bool × Unit) × (X × EnvP × Unit))} {r s : Rs σ × EnvP} {c : Prop} [Decidable c] (h1 : c → SimR og mk b r) (h2 : ¬ c → SimR og mk a s) : SimR og mk (if (!decide c) = true then a else b) (if c then r else s) := by
  by_cases h : c
  · rw [if_pos h, decide_eq_true h]; exact h1 h
  · rw [if_neg h, decide_eq_false h]; exact h2 h
def ProbeOk (n : Int) : ProbeS → Prop
  | .new => True
  | .run s i _ => (0 ≤ s ∧ s < n) ∧ 0 ≤ i ∧ i ≤ n
theorem modP_in {a n : Int} (hn : 1 ≤ n ∧ n ≤ 1000000) : 0 ≤ modP a n ∧ modP a n < n := by
  unfold modP
  rw [if_neg (by omega)]
  have h1 : -n < Int.tmod a n := Int.lt_tmod_of_pos a (b := n) (by omega)
  have h2 : Int.tmod a n < n := Int.tmod_lt_of_pos a (b := n) (by omega)
  split
  · rw [wi_id (rg_lit (by omega))]; omega
  · omega
theorem modP_id {s n : Int} (h : 0 ≤ s ∧ s < n) : modP s n = s := by
  unfold modP
  rw [if_neg (by omega)]
  have e1 : Int.tmod s n = s := Int.tmod_eq_of_lt h.1 h.2
  rw [e1, if_neg (by omega)]
theorem pass_rg {w n s i : Int} (hi : 0 ≤ i ∧ i ≤ n) (hn : n ≤ 16) : i ≤ passP w n s i ∧ passP w n s i ≤ n := by
  unfold passP
  split
  · rw [wi_id (rg_lit (by omega))]; omega
  · omega
theorem in16 {v : Int} (h : 0 ≤ v ∧ v < 16) : v = 15 ∨ v = 14 ∨ v = 13 ∨ v = 12 ∨ v = 11 ∨ v = 10 ∨ v = 9 ∨ v = 8 ∨ v = 7 ∨ v = 6 ∨ v = 5 ∨ v = 4 ∨ v = 3 ∨ v = 2 ∨ v = 1 ∨ v = 0 := by omega
theorem probe_run {w s i : Int} {bm : B16} (hw : 1 ≤ e.c.workers) (h : ProbeOk (manyP e) (.run s i bm)) : SimR ProbeV.o (probeC w) (probeProbeStep (probeC w (.run s i bm)) e) (probeG w e s i bm) := by
  obtain ⟨hs, hi⟩ := h
  have hn := many_rg hw
  have hM : (if 16 < e.c.workers then 16 else e.c.workers) = manyP e := rfl
  have hp := pass_rg (w := w) (s := s) hi hn.2
  unfold probeProbeStep probeG
  simp only [probeC, pEnded, o0, hM, Option.bind_some, Bool.false_eq_true, if_false, Bool.not_true, pass_eq hn.1, decide_eq_true_eq, pEnd]
  refine SimR.ite (fun _ => ⟨_, rfl, rfl⟩) fun hlt => ?_
  generalize hj : passP w (manyP e) s i = j at hp hlt ⊢
  have hsj : wi (s + j) = s + j := wi_id (rg_lit (by omega))
  have hv := tmod_in (a := s + j) hn.1 (by omega)
  have hj1 : wi (j + 1) = j + 1 := wi_id (rg_lit (by omega))
  rw [if_pos (show manyP e ≠ 0 by omega), hsj, hj1]
  generalize hvv : Int.tmod (s + j) (manyP e) = v at hv ⊢
  have hp2 := pass_rg (w := w) (s := s) (i := j + 1) ⟨by omega, by omega⟩ hn.2
  simp only [pBitmap_eq, pLoad_eq, Option.bind_some]
  refine SimR.bind (z := (⟨⟨false, 0, 0⟩, w, true, s, j, bm.put v (e.m.gt (bitmapP e.l v))⟩, { e with m := e.m.pt 1 (bitmapP e.l v) (e.m.gt (bitmapP e.l v)) }, ())) ?_ ?_
  · rcases in16 (v := v) (by omega) with h | h | h | h | h | h | h | h | h | h | h | h | h | h | h | h <;> subst h <;> rfl
  simp only [hj1, pass_eq hn.1, Option.bind_some]
  generalize hj2 : passP w (manyP e) s (j + 1) = j2 at hp2 ⊢
  refine SimR.ite' (c := manyP e ≤ j2) (fun h2 => ?_) (fun h2 => ?_)
  · simp only [if_true, if_pos (show 0 ≤ manyP e ∧ manyP e ≤ ((16 : Nat) : Int) by omega)]
    have ht : (((manyP e).toNat : Nat) : Int) = manyP e := by omega
    have hm : modP s (manyP e) = s := modP_id hs
    refine SimR.bind (pick_loop (w := w) (s := s) (n := manyP e) hn ⟨hs.1, by omega⟩ s hm _ rfl _ (fun self a b i h0 h16 => ?_) (manyP e).toNat _ 0 (-1) (-1) (Int.le_refl 0) (by omega) (by omega)) ?_
    · simp only [ht, pMod_eq, hm, Option.bind_some]
      refine ite_congr rfl (fun hlt => ?_) fun _ => rfl
      have hsi : wi (s + i) = s + i := wi_id (rg_lit (by omega))
      have hv2 := tmod_in (a := s + i) hn.1 (by omega)
      rw [if_pos (show manyP e ≠ 0 by omega), hsi]
      generalize Int.tmod (s + i) (manyP e) = u at hv2 ⊢
      rw [if_pos hv2.2]
      refine (bind_eq (z := (highP ((bm.put v (e.m.gt (bitmapP e.l v))).at u), ⟨⟨false, 0, 0⟩, w, true, s, j2, bm.put v (e.m.gt (bitmapP e.l v))⟩, ())) ?_).trans ?_
      · rcases in16 (v := u) (by omega) with h | h | h | h | h | h | h | h | h | h | h | h | h | h | h | h <;> subst h <;> exact bind_eq pHigh_eq
      · by_cases c1 : u ≠ w
        · by_cases c2 : b < highP ((bm.put v (e.m.gt (bitmapP e.l v))).at u)
          · rw [if_pos c1, if_pos c2, if_pos ⟨c1, c2⟩]
          · rw [if_pos c1, if_neg c2, if_neg (fun h => c2 h.2)]
        · rw [if_neg c1, if_neg (fun h => c1 h.1)]
    · have hc : chooseP w (manyP e) s (bm.put v (e.m.gt (bitmapP e.l v))) = pickP w (manyP e) s (bm.put v (e.m.gt (bitmapP e.l v))) (manyP e).toNat 0 (-1, -1) := by unfold chooseP; rw [hm]
      rw [hc]
      simp only [pair_ite, Option.bind_some]
      exact SimR.ite (fun _ => ⟨_, rfl, rfl⟩) fun _ => ⟨_, rfl, rfl⟩
  · rfl
theorem probe_sim {w : Int} (hw : 1 ≤ e.c.workers) (s : ProbeS) (h : ProbeOk (manyP e) s) : SimR ProbeV.o (probeC w) (probeProbeStep (probeC w s) e) (probeS w e s) := by
  cases s with
  | run s i bm => exact probe_run hw h
  | new =>
    have hn := many_rg hw
    have hd : 0 ≤ drawP e.k (manyP e) ∧ drawP e.k (manyP e) < manyP e := modP_in ⟨hn.1, by omega⟩
    have h1 := probe_run (w := w) (s := drawP e.k (manyP e)) (i := 0) (bm := b16z) hw ⟨hd, Int.le_refl 0, by omega⟩
    have hM : (if 16 < e.c.workers then 16 else e.c.workers) = manyP e := rfl
    have e1 : probeProbeStep (probeC w .new) e = probeProbeStep (probeC w (.run (drawP e.k (manyP e)) 0 b16z)) e := by
      unfold probeProbeStep
      simp only [probeC, pEnded, o0, hM, Option.bind_some, Bool.false_eq_true, if_false, Bool.not_true, Bool.not_false, if_true, pDraw_eq]
    rw [e1]
    exact h1
theorem probe_ok {w : Int} (hw : 1 ≤ e.c.workers) {s s' : ProbeS} {e' : EnvP} (h : ProbeOk (manyP e) s) (hs : probeS w e s = (.go s', e')) : ProbeOk (manyP e) s' := by
  have hn := many_rg hw
  have key : ∀ s i bm, (0 ≤ s ∧ s < manyP e) → (0 ≤ i ∧ i ≤ manyP e) → probeG w e s i bm = (.go s', e') → ProbeOk (manyP e) s' := fun s i bm hs0 hi hg => by
    have hp := pass_rg (w := w) (s := s) hi hn.2
    unfold probeG at hg
    generalize passP w (manyP e) s i = j at hp hg
    split at hg
    · cases hg
    · rename_i hlt
      have hj1 : wi (j + 1) = j + 1 := wi_id (rg_lit (by omega))
      have hp2 := pass_rg (w := w) (s := s) (i := j + 1) ⟨by omega, by omega⟩ hn.2
      simp only [hj1] at hg
      split at hg
      · split at hg <;> cases hg
      · cases hg
        exact ⟨hs0, by omega, by omega⟩
  cases s with
  | run s i bm => exact key s i bm h.1 h.2 hs
  | new => exact key _ 0 _ (modP_in ⟨hn.1, by omega⟩) ⟨Int.le_refl 0, by omega⟩ hs
end
end
section
open Go Go.RowKit
set_option maxRecDepth 100000
/-- At most one access; a load changes nothing. -/
inductive One (m : MemV) : MemV → Prop where
  | no : One m m
  | yes (k a v : Int) (h : 0 ≤ a ∧ a < (m.cells.length : Int)) (hk : k < 2 → v = atK0 m.cells a) : One m ⟨m.cells.set a.toNat v, ⟨k, a, atK0 m.cells a, v⟩, wi (m.count + 1)⟩
/-- What a step leaves: j events at most. -/
structure Stp (j : Nat) (e e' : EnvP) : Prop where
  c : e'.c = e.c
  l : e'.l = e.l
  k : e'.k = e.k
  rl : e'.recs.length = e.recs.length
  m : One e.m e'.m
  ev : e'.evs.length ≤ e.evs.length + j
  kd : ∀ K, (∀ r ∈ e.recs, r.kids.length ≤ K) → ∀ r ∈ e'.recs, r.kids.length ≤ K + 1
section
variable {j : Nat} {e e' : EnvP}
theorem Stp.refl : Stp 0 e e := ⟨rfl, rfl, rfl, rfl, .no, Nat.le_refl _, fun K h r hr => Nat.le_succ_of_le (h r hr)⟩
theorem Stp.le {i : Nat} (h : Stp j e e') (hi : j ≤ i) : Stp i e e' := ⟨h.c, h.l, h.k, h.rl, h.m, Nat.le_trans h.ev (Nat.add_le_add_left hi _), h.kd⟩
theorem one_pt {m : MemV} {k a v : Int} (hk : k < 2 → 0 ≤ a → a < (m.cells.length : Int) → v = atK0 m.cells a) : One m (m.pt k a v) := by
  unfold MemV.pt
  by_cases h : 0 ≤ a ∧ a < (m.cells.length : Int)
  · rw [if_pos h]; exact .yes k a v h fun hk' => hk hk' h.1 h.2
  · rw [if_neg h]; exact .no
theorem Stp.pt {k a v : Int} (hk : 2 ≤ k) : Stp 0 e (e.pt k a v) := ⟨rfl, rfl, rfl, rfl, one_pt fun h => absurd h (by omega), Nat.le_refl _, fun K h r hr => Nat.le_succ_of_le (h r hr)⟩
theorem Stp.lk {a : Int} : Stp 0 e (e.lk a) := ⟨rfl, rfl, rfl, rfl, one_pt fun _ h1 h2 => by unfold MemV.gt; rw [if_pos ⟨h1, h2⟩], Nat.le_refl _, fun K h r hr => Nat.le_succ_of_le (h r hr)⟩
theorem Stp.cas {a o v : Int} : Stp 0 e (e.cas a o v) := ⟨rfl, rfl, rfl, rfl, one_pt fun h => absurd h (by omega), Nat.le_refl _, fun K h r hr => Nat.le_succ_of_le (h r hr)⟩
theorem Stp.em {k w t o l : Int} (h : Stp j e e') : Stp (j + 1) e (e'.em k w t o l) := ⟨h.c, h.l, h.k, h.rl, h.m, by
  show (e'.evs ++ [_]).length ≤ _
  rw [List.length_append, List.length_singleton]
  have := h.ev
  omega, h.kd⟩
theorem Stp.pr {t : Int} {r : RecP} (h : Stp j e e') (hr : ∀ K, (∀ r ∈ e.recs, r.kids.length ≤ K) → r.kids.length ≤ K + 1) : Stp j e (e'.pr t r) := ⟨h.c, h.l, h.k, (by show (e'.recs.set _ _).length = _; rw [List.length_set]; exact h.rl), h.m, h.ev, fun K hK x hx => by
  rcases List.mem_or_eq_of_mem_set hx with hx | rfl
  · exact h.kd K hK x hx
  · exact hr K hK⟩
theorem opush_nx {q : QV} {v : Int} (s : OPushS) : Stp 0 e (opushS q v e s).2 := by
  cases s <;> unfold opushS <;> first | exact .lk | exact .pt (by decide)
theorem opop_nx {q : QV} (s : OPopS) : Stp 0 e (opopS q e s).2 := by
  cases s <;> unfold opopS <;> first | exact .lk | exact .pt (by decide) | exact .cas
theorem steal_nx {q : QV} (s : StealS) : Stp 0 e (stealS q e s).2 := by
  cases s <;> unfold stealS <;> first | exact .lk | exact .pt (by decide) | exact .cas
theorem reset_nx {a b : Int} {q : QV} (s : ResetS) : Stp 0 e (resetS a b q e s).2 := by
  cases s <;> unfold resetS <;> first | exact .lk | exact .pt (by decide)
theorem set_nx {a b : Int} : Stp 0 e (setE a b e) := .pt (by decide)
theorem alloc_nx : Stp 0 e (allocE e) := .pt (by decide)
theorem publish_nx {t v : Int} (s : PublishS) : Stp 0 e (publishS t v e s).2 := by
  unfold publishS
  split
  · exact .refl
  · cases s <;> exact .pt (by decide)
theorem rc_kids {t : Int} (h : 0 ≤ t ∧ t < (e.recs.length : Int)) (K : Nat) (hK : ∀ r ∈ e.recs, r.kids.length ≤ K) : (e.rc t).kids.length ≤ K := by
  refine hK _ ?_
  have h1 := atL_get (d := (dfR 26 : RecP)) (xs := e.recs) h
  exact List.mem_of_getElem? h1
theorem claim_nx {w t : Int} (hr : claimB t e = true → 0 ≤ t ∧ t < (e.recs.length : Int)) : Stp 1 e (claimE w t e) := by
  unfold claimE
  split
  · rename_i h
    split
    · exact Stp.cas.em
    · refine (Stp.cas.pr fun K hK => ?_).em
      exact Nat.le_succ_of_le (rc_kids (hr h) K hK)
  · exact Stp.cas.em
theorem lock_nx {o : Int} : Stp 0 e (lockE o e) := .cas
theorem free_nx : Stp 0 e (freeE e) := .pt (by decide)
theorem insert_nx {d t : Int} (s : InsertS) : Stp 0 e (insertS d t e s).2 := by
  cases s <;> unfold insertS <;> first | exact .lk | exact .pt (by decide)
theorem remove_nx {w : Int} (s : RemoveS) : Stp 1 e (removeS w e s).2 := by
  cases s <;> unfold removeS <;> first | exact Stp.lk.le (by decide) | exact Stp.le (.pt (by decide)) (by decide) | exact Stp.em (.pt (by decide))
theorem sleep_nx {w : Int} (s : SleepS) : Stp 1 e (sleepS w e s).2 := by
  cases s <;> unfold sleepS <;> repeat' split
  all_goals first | exact Stp.lk.le (by decide) | exact Stp.le (.pt (by decide)) (by decide) | exact Stp.lk.em
theorem wake_nx [Tb] {w v : Int} (s : WakeS) : Stp 1 e (wakeS w v e s).2 := by
  cases s <;> unfold wakeS <;> first | exact Stp.lk.le (by decide) | exact Stp.le (.pt (by decide)) (by decide) | exact Stp.em (.pt (by decide))
theorem raise_nx {w t v : Int} (s : RaiseS) : Stp 1 e (raiseS w t v e s).2 := by
  unfold raiseS
  split
  · exact Stp.refl.le (by decide)
  · cases s
    · exact Stp.lk.le (by decide)
    · simp only
      split
      · exact Stp.cas.em
      · exact Stp.cas.le (by decide)
theorem probe_nx {w : Int} (s : ProbeS) : Stp 0 e (probeS w e s).2 := by
  have key : ∀ s i bm, Stp 0 e (probeG w e s i bm).2 := fun s i bm => by
    unfold probeG
    split
    · exact .refl
    · simp only
      split <;> exact .lk
  cases s
  · exact key _ _ _
  · exact key _ _ _
theorem lpush_nx {w v x : Int} (s : LPushS) : Stp 0 e (lpushS w v x e s).2 := by
  cases s with
  | new =>
    have h := opush_nx (e := e) (q := queueP e.l w v) (v := x) .l1
    revert h
    simp only [lpushS]
    rcases opushS (queueP e.l w v) x e .l1 with ⟨r | ⟨c, y⟩, e'⟩ <;> intro h <;> exact h
  | push s =>
    have h := opush_nx (e := e) (q := queueP e.l w v) (v := x) s
    revert h
    simp only [lpushS]
    rcases opushS (queueP e.l w v) x e s with ⟨r | ⟨c, y⟩, e'⟩ <;> intro h <;> exact h
  | set => exact set_nx
theorem lpop_nx {w : Int} (s : LPopS) : Stp 0 e (lpopS w e s).2 := by
  cases s with
  | l1 v => exact .lk
  | l2 v s =>
    have h := opop_nx (e := e) (q := queueP e.l w v) s
    revert h
    simp only [lpopS]
    rcases opopS (queueP e.l w v) e s with ⟨r | ⟨c, y⟩, e'⟩ <;> intro h <;> exact h
  | l3 v s =>
    have h := reset_nx (e := e) (a := bitmapP e.l w) (b := v) (q := queueP e.l w v) s
    revert h
    simp only [lpopS]
    rcases resetS (bitmapP e.l w) v (queueP e.l w v) e s with ⟨r | ⟨c, y⟩, e'⟩ <;> intro h <;> exact h
theorem walk_nx {w v : Int} (s : WalkS) : Stp 1 e (walkS w v e s).2 := by
  cases s with
  | l1 t =>
    by_cases hf : Fits e t v
    · have h := raise_nx (e := e) (w := w) (t := t) (v := v) (.l1 0)
      simp only [walkS, hf, not_true, if_false]
      revert h
      rcases raiseS w t v e (.l1 0) with ⟨r | ⟨c, y⟩, e'⟩ <;> intro h <;> exact h
    · simp only [walkS, hf, not_false_eq_true, if_true]
      exact Stp.refl.le (by decide)
  | raise t s =>
    have h := raise_nx (e := e) (w := w) (t := t) (v := v) s
    revert h
    simp only [walkS]
    rcases raiseS w t v e s with ⟨r | ⟨c, y⟩, e'⟩ <;> intro h <;> exact h
  | l2 t => exact Stp.lk.le (by decide)
  | push t s =>
    have h := lpush_nx (e := e) (w := w) (v := v) (x := t) s
    revert h
    simp only [walkS]
    rcases lpushS w v t e s with ⟨r | ⟨c, y⟩, e'⟩ <;> intro h
    · exact h.le (by decide)
    · show Stp 1 e (if c = 3 then _ else _)
      split
      · exact h.em
      · exact h.le (by decide)
  | l4 t => exact Stp.lk.le (by decide)
theorem enter_nx {w t : Int} (s : EnterS) : Stp 0 e (enterS w t e s).2 := by
  cases s with
  | l1 =>
    by_cases hf : IsT e t
    · simp only [enterS, hf, not_true, if_false]; exact .pt (by decide)
    · simp only [enterS, hf, not_false_eq_true, if_true]; exact .refl
  | l2 => exact .pt (by decide)
  | l3 => exact .lk
  | l4 v s =>
    have h := lpush_nx (e := e) (w := w) (v := v) (x := t) s
    revert h
    simp only [enterS]
    rcases lpushS w v t e s with ⟨r | ⟨c, y⟩, e'⟩ <;> intro h <;> exact h
theorem sweep_nx {w t : Int} (s : SweepS) : Stp 1 e (sweepS w t e s).2 := by
  cases s with
  | l1 =>
    by_cases hf : ¬ IsT e t ∨ e.c.age = 0
    · simp only [sweepS, hf, if_true]; exact Stp.refl.le (by decide)
    · simp only [sweepS, hf, if_false]; exact Stp.lk.le (by decide)
  | l2 => exact Stp.lk.le (by decide)
  | l3 => exact Stp.lk.le (by decide)
  | l4 q =>
    by_cases hf : e.hit (levelP e.l t) q = true
    · simp only [sweepS, hf, if_true]; exact Stp.cas.em
    · simp only [sweepS, hf, if_false]; exact Stp.cas.le (by decide)
  | l5 q => exact Stp.le (.pt (by decide)) (by decide)
  | l6 q s =>
    have h := lpush_nx (e := e) (w := w) (v := wi (wi q + 1)) (x := t) s
    revert h
    simp only [sweepS]
    rcases lpushS w (wi (wi q + 1)) t e s with ⟨r | ⟨c, y⟩, e'⟩ <;> intro h
    · exact h.le (by decide)
    · show Stp 1 e (if c = 3 then _ else _)
      split
      · exact h.em
      · exact h.le (by decide)
theorem take_nx {w : Int} (hr : ∀ t, claimB t e = true → 0 ≤ t ∧ t < (e.recs.length : Int)) (s : TakeS) : Stp 1 e (takeS w e s).2 := by
  cases s with
  | pop s =>
    have h := lpop_nx (e := e) (w := w) s
    revert h
    simp only [takeS]
    rcases lpopS w e s with ⟨r | ⟨c, y⟩, e'⟩ <;> intro h <;> exact h.le (by decide)
  | claim t => exact claim_nx (hr t)
theorem drain_nx [Tb] {w : Int} (d : DrainS) : Stp 1 e (drainS w e d).2 := by
  obtain ⟨x, b, p, la, n, c⟩ := d
  cases c with
  | l1 => exact Stp.lk.le (by decide)
  | l2 => exact lock_nx.le (by decide)
  | l3 s =>
    have h := remove_nx (e := e) (w := w) s
    revert h
    simp only [drainS]
    rcases removeS w e s with ⟨r | ⟨c, y⟩, e'⟩ <;> intro h <;> exact h
  | l4 => exact Stp.lk.le (by decide)
  | l5 s =>
    have h := lpush_nx (e := e) (w := w) (v := p) (x := x) s
    revert h
    simp only [drainS]
    rcases lpushS w p x e s with ⟨r | ⟨c, y⟩, e'⟩ <;> intro h <;> exact h.le (by decide)
  | l6 => exact free_nx.le (by decide)
  | l7 s =>
    have h := wake_nx (e := e) (w := w) (v := la) s
    revert h
    simp only [drainS]
    rcases wakeS w la e s with ⟨r | ⟨c, y⟩, e'⟩ <;> intro h <;> exact h
end
end
section
open Go Go.RowKit
set_option maxRecDepth 100000
/-- What holds of an environment behind K steps. -/
structure EOk (K : Nat) (e : EnvP) : Prop where
  dq : 0 ≤ e.l.deque ∧ e.l.deque ≤ 65535
  tk : e.l.tasks = (e.recs.length : Int)
  ct : e.c.tasks = (e.recs.length : Int)
  wk : 1 ≤ e.c.workers
  ev : e.evs.length ≤ K
  kd : ∀ r ∈ e.recs, r.kids.length ≤ K
section
variable [Tb] {K : Nat} {e : EnvP}
theorem EOk.q (h : EOk K e) (w v : Int) : (queueP e.l w v).cap ≤ 9223372036854775807 := by
  have := h.dq
  unfold queueP
  repeat' split
  all_goals simp only; omega
theorem EOk.st (h : EOk K e) {t o : Int} (hh : e.hit (stateP e.l t) o = true) : 0 ≤ t ∧ t < (e.recs.length : Int) := by
  have h1 : 0 ≤ stateP e.l t := by
    have := of_decide_eq_true hh
    exact this.1.1
  unfold stateP taskP atP at h1
  rw [← h.tk]
  split at h1
  · omega
  · split at h1 <;> omega
theorem EOk.step (h : EOk K e) {j : Nat} {e' : EnvP} (s : Stp j e e') : EOk (K + j + 1) e' := by
  refine ⟨?_, ?_, ?_, ?_, ?_, ?_⟩
  · rw [s.l]; exact h.dq
  · rw [s.l, s.rl]; exact h.tk
  · rw [s.c, s.rl]; exact h.ct
  · rw [s.c]; exact h.wk
  · have := s.ev; have := h.ev; omega
  · intro r hr
    have := s.kd K h.kd r hr
    omega
@[reducible] def lpushC (l : LayV) (w v x : Int) : LPushS → LPushV MV
  | .new => ⟨o0, w, v, x, 1, .nil⟩
  | .push s => ⟨o0, w, v, x, 1, .opush (opushC (queueP l w v) x s)⟩
  | .set => ⟨o0, w, v, x, 2, .set ⟨o0, bitmapP l w, v⟩⟩
@[reducible] def lpopC (l : LayV) (w : Int) : LPopS → LPopV MV
  | .l1 v => ⟨o0, w, v, 1, .nil⟩
  | .l2 v s => ⟨o0, w, v, 2, .opop (opopC (queueP l w v) s)⟩
  | .l3 v s => ⟨o0, w, v, 3, .reset (resetC (bitmapP l w) v (queueP l w v) s)⟩
@[reducible] def walkC (l : LayV) (w v : Int) : WalkS → WalkV MV
  | .l1 t => ⟨o0, w, t, v, 1, .nil⟩
  | .raise t s => ⟨o0, w, t, v, 1, .raise (raiseC w t v s)⟩
  | .l2 t => ⟨o0, w, t, v, 2, .nil⟩
  | .push t s => ⟨o0, w, t, v, 3, .lpush (lpushC l w v t s)⟩
  | .l4 t => ⟨o0, w, t, v, 4, .nil⟩
@[reducible] def enterC (l : LayV) (w t : Int) : EnterS → EnterV MV
  | .l1 => ⟨o0, w, t, 0, 1, .nil⟩
  | .l2 => ⟨o0, w, t, 0, 2, .nil⟩
  | .l3 => ⟨o0, w, t, 0, 3, .nil⟩
  | .l4 v s => ⟨o0, w, t, v, 4, .lpush (lpushC l w v t s)⟩
@[reducible] def sweepC (l : LayV) (w t : Int) : SweepS → SweepV MV
  | .l1 => ⟨o0, w, t, 1, 0, .nil⟩
  | .l2 => ⟨o0, w, t, 2, 0, .nil⟩
  | .l3 => ⟨o0, w, t, 3, 0, .nil⟩
  | .l4 q => ⟨o0, w, t, 4, q, .nil⟩
  | .l5 q => ⟨o0, w, t, 5, q, .nil⟩
  | .l6 q s => ⟨o0, w, t, 6, q, .lpush (lpushC l w (wi (wi q + 1)) t s)⟩
@[reducible] def takeC (l : LayV) (w : Int) : TakeS → TakeV MV
  | .pop s => ⟨o0, w, false, .lpop (lpopC l w s)⟩
  | .claim t => ⟨o0, w, true, .claim ⟨o0, w, t⟩⟩
@[reducible] def drainCC (l : LayV) (w p x last : Int) : DrainC → Int × MV
  | .l1 => (1, .nil)
  | .l2 => (2, .attempt ⟨o0, w, true⟩)
  | .l3 s => (3, .remove (removeC w s))
  | .l4 => (4, .nil)
  | .l5 s => (5, .lpush (lpushC l w p x s))
  | .l6 => (6, .release ⟨o0⟩)
  | .l7 s => (7, .wake (wakeC w last s))
@[reducible] def drainC (l : LayV) (w : Int) (d : DrainS) : DrainV MV :=
  ⟨o0, w, (drainCC l w d.p d.x d.last d.c).1, (drainCC l w d.p d.x d.last d.c).2, d.x, d.direct, d.p, d.last, d.count⟩
theorem spl_nil : (SR1.spl MV.nil).isNone = true := rfl
theorem spl_opush (x : OPushV) : (SR1.spl (MV.opush x)).isNone = false := rfl
theorem spl_set (x : SetV) : (SR1.spl (MV.set x)).isNone = false := rfl
theorem spl_raise (x : RaiseV) : (SR1.spl (MV.raise x)).isNone = false := rfl
theorem lpush_sim {w v x : Int} (hK : EOk K e) (s : LPushS) : SimR LPushV.o (lpushC e.l w v x) (levelsPushStep (lpushC e.l w v x s) e) (lpushS w v x e s) := by
  have hq := hK.q w v
  cases s with
  | new =>
    have h := opush_sim (e := e) (v := x) hq .l1
    have hn := opush_nx (e := e) (q := queueP e.l w v) (v := x) .l1
    revert h hn
    simp only [lpushS, levelsPushStep, spl_nil, pEnded, pEnd, o0, pQueue_eq, ownerPush, stepD0, Option.bind_some, if_true, Bool.false_eq_true, if_false]
    rcases opushS (queueP e.l w v) x e .l1 with ⟨r | ⟨c, y⟩, e'⟩ <;> intro h hn
    · simp only [SimR, o0] at h
      simp only [h, Option.bind_some, Bool.not_false, if_true]
      rfl
    · simp only [SimR, o0] at h
      obtain ⟨x', h, ho⟩ := h
      have hnl : e'.l = e.l := hn.l
      simp only [h, ho, resultD0, Option.bind_some, Bool.not_true, Bool.false_eq_true, if_false, pBitmap_eq, bitmapSet, hnl, reduceIte, Int.reduceEq, pair_ite]
      exact SimR.ite (fun _ => ⟨_, rfl, rfl⟩) fun _ => rfl
  | push s =>
    have h := opush_sim (e := e) (v := x) hq s
    have hn := opush_nx (e := e) (q := queueP e.l w v) (v := x) s
    revert h hn
    simp only [lpushS, levelsPushStep, spl_opush, pEnded, pEnd, o0, stepD0, Option.bind_some, if_true, Bool.false_eq_true, if_false]
    rcases opushS (queueP e.l w v) x e s with ⟨r | ⟨c, y⟩, e'⟩ <;> intro h hn
    · simp only [SimR] at h
      simp only [h, Option.bind_some, Bool.not_false, if_true]
      rfl
    · simp only [SimR] at h
      obtain ⟨x', h, ho⟩ := h
      have hnl : e'.l = e.l := hn.l
      simp only [h, ho, resultD0, Option.bind_some, Bool.not_true, Bool.false_eq_true, if_false, pBitmap_eq, bitmapSet, hnl, reduceIte, Int.reduceEq, pair_ite]
      exact SimR.ite (fun _ => ⟨_, rfl, rfl⟩) fun _ => rfl
  | set =>
    obtain ⟨y, h, ho⟩ := set_sim (e := e) (a := bitmapP e.l w) (b := v)
    simp only [o0] at h
    simp only [lpushS, levelsPushStep, spl_set, pEnded, pEnd, o0, stepD0, h, ho, resultD0, Option.bind_some, Bool.not_true, if_true, Bool.false_eq_true, if_false, reduceIte, Int.reduceEq]
    exact ⟨_, rfl, rfl⟩
theorem lpop_sim {w : Int} (hK : EOk K e) (s : LPopS) : SimR LPopV.o (lpopC e.l w) (levelsPopStep (lpopC e.l w s) e) (lpopS w e s) := by
  cases s with
  | l1 v =>
    simp only [lpopS, levelsPopStep, levelsPopLook, pEnded, pEnd, o0, pBitmap_eq, pLoad_eq, pHigh_eq, pQueue_eq, ownerPop, Option.bind_some, if_true, Bool.false_eq_true, if_false, pair_ite, bind_ite]
    exact SimR.ite (fun _ => ⟨_, rfl, rfl⟩) fun _ => rfl
  | l2 v s =>
    have h := opop_sim (e := e) (hK.q w v) s
    have hn := opop_nx (e := e) (q := queueP e.l w v) s
    revert h hn
    simp only [lpopS, levelsPopStep, pEnded, pEnd, o0, stepD0, Option.bind_some, if_true, Bool.false_eq_true, if_false, reduceIte, Int.reduceEq]
    rcases opopS (queueP e.l w v) e s with ⟨r | ⟨c, y⟩, e'⟩ <;> intro h hn
    · simp only [SimR] at h
      simp only [h, Option.bind_some, Bool.not_false, if_true]
      rfl
    · simp only [SimR] at h
      obtain ⟨x', h, ho⟩ := h
      have hnl : e'.l = e.l := hn.l
      simp only [h, ho, resultD0, Option.bind_some, Bool.not_true, Bool.false_eq_true, if_true, if_false, pBitmap_eq, pQueue_eq, bitmapClear, hnl, reduceIte, Int.reduceEq, pair_ite]
      exact SimR.ite (fun _ => ⟨_, rfl, rfl⟩) fun _ => rfl
  | l3 v s =>
    have h := reset_sim (e := e) (a := bitmapP e.l w) (b := v) (q := queueP e.l w v) s
    revert h
    simp only [lpopS, levelsPopStep, pEnded, pEnd, o0, stepD0, Option.bind_some, if_true, Bool.false_eq_true, if_false, reduceIte, Int.reduceEq]
    rcases resetS (bitmapP e.l w) v (queueP e.l w v) e s with ⟨r | ⟨c, y⟩, e'⟩ <;> intro h
    · simp only [SimR] at h
      simp only [h, Option.bind_some, Bool.not_false, if_true]
      rfl
    · simp only [SimR] at h
      obtain ⟨x', h, ho⟩ := h
      simp only [h, ho, resultD0, Option.bind_some, Bool.not_true, Bool.false_eq_true, if_true, if_false]
      rfl
theorem walk_sim {w v : Int} (hK : EOk K e) (hk : K ≤ 100000000) (s : WalkS) : SimR WalkV.o (walkC e.l w v) (boostWalkStep (walkC e.l w v s) e) (walkS w v e s) := by
  have hl : e.evs.length ≤ 999999999 := by have := hK.ev; omega
  cases s with
  | l1 t =>
    by_cases hf : Fits e t v
    · have h := raise_sim (e := e) (w := w) (t := t) (v := v) hl (.l1 0)
      revert h
      simp only [walkS, hf, boostWalkStep, boostWalkRaise, fits_eq, decide_true, not_true, Bool.not_true, spl_nil, boostRaise, pEnded, pEnd, o0, stepD1, Option.bind_some, if_true, Bool.false_eq_true, if_false, reduceIte, Int.reduceEq]
      rcases raiseS w t v e (.l1 0) with ⟨r | ⟨c, y⟩, e'⟩ <;> intro h
      · simp only [SimR, o0] at h
        simp only [h, Option.bind_some, Bool.not_false, if_true]
        rfl
      · simp only [SimR, o0] at h
        obtain ⟨x', h, ho⟩ := h
        simp only [h, ho, resultD1, Option.bind_some, Bool.not_true, Bool.false_eq_true, if_true, if_false, pair_ite, bind_ite, go_ite]
        exact SimR.ite (fun _ => rfl) fun _ => rfl
    · simp only [walkS, hf, boostWalkStep, boostWalkRaise, fits_eq, decide_false, not_false_eq_true, Bool.not_false, spl_nil, pEnded, pEnd, o0, Option.bind_some, if_true, Bool.false_eq_true, if_false, reduceIte, Int.reduceEq]
      exact ⟨_, rfl, rfl⟩
  | raise t s =>
    have h := raise_sim (e := e) (w := w) (t := t) (v := v) hl s
    revert h
    simp only [walkS, boostWalkStep, boostWalkRaise, spl_raise, pEnded, pEnd, o0, stepD1, Option.bind_some, if_true, Bool.false_eq_true, if_false, reduceIte, Int.reduceEq]
    rcases raiseS w t v e s with ⟨r | ⟨c, y⟩, e'⟩ <;> intro h
    · simp only [SimR] at h
      simp only [h, Option.bind_some, Bool.not_false, if_true]
      rfl
    · simp only [SimR] at h
      obtain ⟨x', h, ho⟩ := h
      simp only [h, ho, resultD1, Option.bind_some, Bool.not_true, Bool.false_eq_true, if_true, if_false, pair_ite, bind_ite, go_ite]
      exact SimR.ite (fun _ => rfl) fun _ => rfl
  | l2 t =>
    simp only [walkS, boostWalkStep, pEnded, pEnd, o0, pState_eq, pLoad_eq, levelsPush, Option.bind_some, if_true, Bool.false_eq_true, if_false, reduceIte, Int.reduceEq, pair_ite, go_ite]
    exact SimR.ite (fun _ => rfl) fun _ => rfl
  | push t s =>
    have h := lpush_sim (w := w) (v := v) (x := t) hK s
    have hn := lpush_nx (e := e) (w := w) (v := v) (x := t) s
    revert h hn
    simp only [walkS, boostWalkStep, boostWalkPush, pEnded, pEnd, o0, stepD1, Option.bind_some, if_true, Bool.false_eq_true, if_false, reduceIte, Int.reduceEq]
    rcases lpushS w v t e s with ⟨r | ⟨c, y⟩, e'⟩ <;> intro h hn
    · simp only [SimR] at h
      simp only [h, Option.bind_some, Bool.not_false, if_true]
      rw [← hn.l]
      rfl
    · simp only [SimR] at h
      obtain ⟨x', h, ho⟩ := h
      have hl' : e'.evs.length ≤ 999999999 := by have h1 : e'.evs.length ≤ e.evs.length + 0 := hn.ev; have := hK.ev; omega
      simp only [h, ho, resultD1, Option.bind_some, Bool.not_true, Bool.false_eq_true, if_true, if_false, pEmit_eq hl']
      by_cases hc : c = 3
      · simp only [hc, if_true]; rfl
      · simp only [hc, if_false]; rfl
  | l4 t =>
    simp only [walkS, boostWalkStep, pEnded, pEnd, o0, pWaits_eq, pLoad_eq, Option.bind_some, if_true, Bool.false_eq_true, if_false, reduceIte, Int.reduceEq, pair_ite]
    exact SimR.ite (fun _ => ⟨_, rfl, rfl⟩) fun _ => rfl
theorem enter_sim {w t : Int} (hK : EOk K e) (s : EnterS) : SimR EnterV.o (enterC e.l w t) (tableEnterStep (enterC e.l w t s) e) (enterS w t e s) := by
  cases s with
  | l1 =>
    by_cases hf : IsT e t
    · simp only [enterS, hf, tableEnterStep, isTask_eq, decide_true, not_true, Bool.not_true, pEnded, pEnd, pNow, o0, pSince_eq, pStore_eq, Option.bind_some, if_true, Bool.false_eq_true, if_false, reduceIte, Int.reduceEq]
      rfl
    · simp only [enterS, hf, tableEnterStep, isTask_eq, decide_false, not_false_eq_true, Bool.not_false, pEnded, pEnd, o0, Option.bind_some, if_true, Bool.false_eq_true, if_false, reduceIte, Int.reduceEq]
      exact ⟨_, rfl, rfl⟩
  | l2 =>
    simp only [enterS, tableEnterStep, pEnded, pEnd, o0, pState_eq, pStore_eq, Option.bind_some, if_true, Bool.false_eq_true, if_false, reduceIte, Int.reduceEq]
    rfl
  | l3 =>
    simp only [enterS, tableEnterStep, pEnded, pEnd, o0, pLevel_eq, pLoad_eq, levelsPush, Option.bind_some, if_true, Bool.false_eq_true, if_false, reduceIte, Int.reduceEq]
    rfl
  | l4 v s =>
    have h := lpush_sim (w := w) (v := v) (x := t) hK s
    have hn := lpush_nx (e := e) (w := w) (v := v) (x := t) s
    revert h hn
    simp only [enterS, tableEnterStep, pEnded, pEnd, o0, stepD1, Option.bind_some, if_true, Bool.false_eq_true, if_false, reduceIte, Int.reduceEq]
    rcases lpushS w v t e s with ⟨r | ⟨c, y⟩, e'⟩ <;> intro h hn
    · simp only [SimR] at h
      simp only [h, Option.bind_some, Bool.not_false, if_true]
      rfl
    · simp only [SimR] at h
      obtain ⟨x', h, ho⟩ := h
      simp only [h, ho, resultD1, Option.bind_some, Bool.not_true, Bool.false_eq_true, if_true, if_false]
      exact ⟨_, rfl, rfl⟩
theorem take_sim {w : Int} (hK : EOk K e) (hk : K ≤ 100000000) (s : TakeS) : SimR TakeV.o (takeC e.l w) (takeTakeStep (takeC e.l w s) e) (takeS w e s) := by
  have hl : e.evs.length ≤ 999999999 := by have := hK.ev; omega
  cases s with
  | pop s =>
    have h := lpop_sim (w := w) hK s
    revert h
    simp only [takeS, takeTakeStep, pEnded, pEnd, o0, stepD1, Option.bind_some, if_true, Bool.false_eq_true, if_false]
    rcases lpopS w e s with ⟨r | ⟨c, y⟩, e'⟩ <;> intro h
    · simp only [SimR] at h
      simp only [h, Option.bind_some, Bool.not_false, if_true]
      rfl
    · simp only [SimR] at h
      obtain ⟨x', h, ho⟩ := h
      simp only [h, ho, resultD1, tableClaim, Option.bind_some, Bool.not_true, Bool.false_eq_true, if_true, if_false, pair_ite]
      exact SimR.ite (fun _ => ⟨_, rfl, rfl⟩) fun _ => rfl
  | claim t =>
    obtain ⟨x', h, ho⟩ := claim_sim (w := w) (t := t) hl hK.st
    simp only [o0] at h
    simp only [takeS, takeTakeStep, pEnded, pEnd, o0, stepD1, h, Option.bind_some, if_true, Bool.false_eq_true, if_false, resultD1, Bool.not_true, levelsPop]
    rcases Bool.eq_false_or_eq_true (claimB t e) with hc | hc
    · simp only [hc, if_true] at ho ⊢
      simp only [ho, if_true]
      exact ⟨_, rfl, rfl⟩
    · simp only [hc, Bool.false_eq_true, if_false] at ho ⊢
      simp only [ho, reduceIte, Int.reduceEq]
      rfl
end
end
section
open Go Go.RowKit
set_option maxRecDepth 100000
section
variable [Tb] {K : Nat} {e : EnvP}
theorem sweep_l1 {w t : Int} (hK : EOk K e) (hk : K ≤ 100000000) : SimR SweepV.o (sweepC e.l w t) (agingSweepStep (sweepC e.l w t .l1) e) (sweepS w t e .l1) := by
  have hl : e.evs.length ≤ 999999999 := by have := hK.ev; omega
  have hm : ∀ m v, pEmit { e with m := m } v = some ((), ({ e with m := m, evs := e.evs ++ [v] }, ())) := fun m v => pEmit_eq (e := { e with m := m }) hl
  by_cases c1 : t < 0
  · have hf : ¬ IsT e t ∨ e.c.age = 0 := .inl fun h => by have := h.1; omega
    simp only [sweepS]
    rw [if_pos hf]
    simp only [agingSweepStep, agingSweepLook, c1, pEnded, pEnd, o0, Option.bind_some, Bool.false_eq_true, if_false, reduceIte, Int.reduceEq]
    exact ⟨_, rfl, rfl⟩
  by_cases c2 : e.c.tasks ≤ t
  · have hf : ¬ IsT e t ∨ e.c.age = 0 := .inl fun h => by have := h.2; omega
    simp only [sweepS]
    rw [if_pos hf]
    simp only [agingSweepStep, agingSweepLook, c1, c2, pEnded, pEnd, o0, Option.bind_some, Bool.false_eq_true, if_false, reduceIte, Int.reduceEq]
    exact ⟨_, rfl, rfl⟩
  by_cases c3 : e.c.age = 0
  · have hf : ¬ IsT e t ∨ e.c.age = 0 := .inr c3
    simp only [sweepS]
    rw [if_pos hf]
    simp only [agingSweepStep, agingSweepLook, c1, c2, c3, decide_true, pEnded, pEnd, o0, Option.bind_some, Bool.false_eq_true, if_false, reduceIte, Int.reduceEq]
    exact ⟨_, rfl, rfl⟩
  have hf : ¬ (¬ IsT e t ∨ e.c.age = 0) := fun h => h.elim (fun h => h ⟨by omega, by omega⟩) c3
  simp only [sweepS]
  rw [if_neg hf]
  simp only [agingSweepStep, agingSweepLook, c1, c2, c3, decide_false, pEnded, pEnd, o0, Option.bind_some, Bool.false_eq_true, if_true, reduceIte, Int.reduceEq, pState_eq, pLoad_eq, decide_eq_true_eq, pair_ite]
  refine SimR.iteL (fun h => ?_) fun h => ?_
  · rw [if_neg h]; exact ⟨_, rfl, rfl⟩
  · rw [if_pos (Classical.not_not.1 h)]; rfl
theorem sweep_l2 {w t : Int} (hK : EOk K e) (hk : K ≤ 100000000) : SimR SweepV.o (sweepC e.l w t) (agingSweepStep (sweepC e.l w t .l2) e) (sweepS w t e .l2) := by
  have hl : e.evs.length ≤ 999999999 := by have := hK.ev; omega
  have hm : ∀ m v, pEmit { e with m := m } v = some ((), ({ e with m := m, evs := e.evs ++ [v] }, ())) := fun m v => pEmit_eq (e := { e with m := m }) hl
  simp only [sweepS, agingSweepStep, agingSweepLook, pEnded, pEnd, pNow, o0, Option.bind_some, if_true, Bool.false_eq_true, if_false, reduceIte, Int.reduceEq, pSince_eq, pLoad_eq, decide_eq_true_eq, pair_ite]
  exact SimR.ite (fun _ => ⟨_, rfl, rfl⟩) fun _ => rfl
theorem sweep_l3 {w t : Int} (hK : EOk K e) (hk : K ≤ 100000000) : SimR SweepV.o (sweepC e.l w t) (agingSweepStep (sweepC e.l w t .l3) e) (sweepS w t e .l3) := by
  have hl : e.evs.length ≤ 999999999 := by have := hK.ev; omega
  have hm : ∀ m v, pEmit { e with m := m } v = some ((), ({ e with m := m, evs := e.evs ++ [v] }, ())) := fun m v => pEmit_eq (e := { e with m := m }) hl
  simp only [sweepS, agingSweepStep, agingSweepLook, pEnded, pEnd, o0, Option.bind_some, if_true, Bool.false_eq_true, if_false, reduceIte, Int.reduceEq, pLevel_eq, pLoad_eq, decide_eq_true_eq, pair_ite]
  exact SimR.ite (fun _ => ⟨_, rfl, rfl⟩) fun _ => rfl
theorem sweep_l4 {w t : Int} (hK : EOk K e) (hk : K ≤ 100000000) (q : Int) : SimR SweepV.o (sweepC e.l w t) (agingSweepStep (sweepC e.l w t (.l4 q)) e) (sweepS w t e (.l4 q)) := by
  have hl : e.evs.length ≤ 999999999 := by have := hK.ev; omega
  have hm : ∀ m v, pEmit { e with m := m } v = some ((), ({ e with m := m, evs := e.evs ++ [v] }, ())) := fun m v => pEmit_eq (e := { e with m := m }) hl
  have he : ∀ x : SweepV MV, agingSweepEvent x 12 = some ((⟨12, x.worker, x.task, 0, wi (wi x.q + 1)⟩, ()), (x, ())) := fun x => id rfl
  simp only [sweepS, agingSweepStep, he, pEnded, pEnd, o0, Option.bind_some, if_true, Bool.false_eq_true, if_false, reduceIte, Int.reduceEq, pLevel_eq, pCAS_eq, hm]
  exact SimR.iteN (fun _ => rfl) fun _ => ⟨_, rfl, rfl⟩
theorem sweep_l5 {w t : Int} (hK : EOk K e) (hk : K ≤ 100000000) (q : Int) : SimR SweepV.o (sweepC e.l w t) (agingSweepStep (sweepC e.l w t (.l5 q)) e) (sweepS w t e (.l5 q)) := by
  have hl : e.evs.length ≤ 999999999 := by have := hK.ev; omega
  have hm : ∀ m v, pEmit { e with m := m } v = some ((), ({ e with m := m, evs := e.evs ++ [v] }, ())) := fun m v => pEmit_eq (e := { e with m := m }) hl
  simp only [sweepS, agingSweepStep, pEnded, pEnd, pNow, o0, Option.bind_some, if_true, Bool.false_eq_true, if_false, reduceIte, Int.reduceEq, pSince_eq, pStore_eq, levelsPush]
  rfl
theorem bnd {α β : Type} {a : α} {f : α → Option β} : (some a).bind f = f a := by
  generalize h : some a = x
  subst h
  rfl
theorem sweep_l6 {w t : Int} (hK : EOk K e) (hk : K ≤ 100000000) (q : Int) (s : LPushS) : SimR SweepV.o (sweepC e.l w t) (agingSweepStep (sweepC e.l w t (.l6 q s)) e) (sweepS w t e (.l6 q s)) := by
  have h := lpush_sim (w := w) (v := wi (wi q + 1)) (x := t) hK s
  have hn := lpush_nx (e := e) (w := w) (v := wi (wi q + 1)) (x := t) s
  have he : ∀ x : SweepV MV, agingSweepEvent x 19 = some ((⟨19, x.worker, x.task, 0, wi (wi x.q + 1)⟩, ()), (x, ())) := fun x => id rfl
  revert h hn
  simp only [sweepS, agingSweepStep, he, bnd, pEnded, pEnd, o0, stepD1, if_true, Bool.false_eq_true, if_false, reduceIte, Int.reduceEq]
  rcases lpushS w (wi (wi q + 1)) t e s with ⟨r | ⟨c, y⟩, e'⟩ <;> intro h hn
  · simp only [SimR] at h
    simp only [h, bnd, Bool.not_false, if_true]
    rfl
  · simp only [SimR] at h
    obtain ⟨x', h, ho⟩ := h
    have hl' : e'.evs.length ≤ 999999999 := by have h1 : e'.evs.length ≤ e.evs.length + 0 := hn.ev; have := hK.ev; omega
    simp only [h, ho, resultD1, bnd, Bool.not_true, Bool.false_eq_true, if_true, if_false, pEmit_eq hl']
    by_cases hc : c = 3
    · simp only [hc, if_true]; exact ⟨_, rfl, rfl⟩
    · simp only [hc, if_false]; exact ⟨_, rfl, rfl⟩
theorem sweep_sim {w t : Int} (hK : EOk K e) (hk : K ≤ 100000000) (s : SweepS) : SimR SweepV.o (sweepC e.l w t) (agingSweepStep (sweepC e.l w t s) e) (sweepS w t e s) := by
  cases s with
  | l1 => exact sweep_l1 hK hk
  | l2 => exact sweep_l2 hK hk
  | l3 => exact sweep_l3 hK hk
  | l4 q => exact sweep_l4 hK hk q
  | l5 q => exact sweep_l5 hK hk q
  | l6 q s => exact sweep_l6 hK hk q s
end
end
section
open Go Go.RowKit
set_option maxRecDepth 100000
section
variable [Tb] {K : Nat} {e : EnvP}
theorem fin_sim {w : Int} {l : LayV} {ln : Int} {m : MV} {d : DrainS} {e' : EnvP} : SimR DrainV.o (drainC l w) (((drainDrainFinish ⟨⟨false, 0, 0⟩, w, ln, m, d.x, d.direct, d.p, d.last, d.count⟩).bind fun r => some ((r.1.1, ()), (r.2.1, e', ()))).bind fun r => some ((r.1.1, ()), (r.2.1, r.2.2.1, ()))) (drainF d, e') := by
  obtain ⟨x, b, p, la, n, c⟩ := d
  unfold drainF
  simp only [drainDrainFinish, pEnd, bnd, o0, bind_ite, pair_ite]
  exact SimR.ite (fun _ => ⟨_, rfl, rfl⟩) fun _ => SimR.ite (fun _ => ⟨_, rfl, rfl⟩) fun _ => ⟨_, rfl, rfl⟩
def DrainOk (d : DrainS) : Prop := match d.c with
  | .l6 => True
  | .l7 _ => True
  | _ => d.direct = false
theorem drain_sim {w : Int} (hK : EOk K e) (hk : K ≤ 100000000) (d : DrainS) (hd : DrainOk d) : SimR DrainV.o (drainC e.l w) (drainDrainStep (drainC e.l w d) e) (drainS w e d) := by
  have hl : e.evs.length ≤ 999999999 := by have := hK.ev; omega
  obtain ⟨x, b, p, la, n, c⟩ := d
  cases c with
  | l1 =>
    simp only [drainS, drainDrainStep, drainDrainRun, lockTry, pEnded, pEnd, pLSize, o0, pLoad_eq, bnd, if_true, Bool.false_eq_true, if_false, reduceIte, Int.reduceEq, pair_ite]
    exact SimR.ite (fun _ => ⟨_, rfl, rfl⟩) fun _ => rfl
  | l2 =>
    obtain ⟨dn, x', h, ho, hd, _⟩ := lock_sim (e := e) (w := w) (b := true)
    rw [Bool.or_true] at hd
    subst hd
    have ho := ho rfl
    simp only [o0] at h
    simp only [drainS, drainDrainStep, drainDrainAfter, drainDrainRemove, drainDrainRun, injectorRemove, pEnded, pEnd, o0, stepD1, h, bnd, if_true, Bool.false_eq_true, if_false, reduceIte, Int.reduceEq, resultD1, Bool.not_true]
    rcases Bool.eq_false_or_eq_true (e.hit 1 0) with hh | hh
    · simp only [hh, if_true] at ho ⊢
      simp only [ho, reduceIte, Int.reduceEq]
      rfl
    · simp only [hh, Bool.false_eq_true, if_false] at ho ⊢
      simp only [ho, reduceIte, Int.reduceEq]
      exact ⟨_, rfl, rfl⟩
  | l3 s =>
    have h := remove_sim (e := e) (w := w) hl s
    have hn := remove_nx (e := e) (w := w) s
    revert h hn
    simp only [drainS, drainDrainStep, pEnded, pEnd, o0, stepD1, bnd, if_true, Bool.false_eq_true, if_false, reduceIte, Int.reduceEq]
    rcases removeS w e s with ⟨r | ⟨c, y⟩, e'⟩ <;> intro h hn
    · simp only [SimR] at h
      simp only [h, bnd, Bool.not_false, if_true]
      rfl
    · simp only [SimR] at h
      obtain ⟨x', h, ho⟩ := h
      simp only [h, ho, resultD1, drainDrainAfter, drainDrainRelease, drainDrainRun, lockRelease, bnd, Bool.not_true, Bool.false_eq_true, if_true, if_false, reduceIte, Int.reduceEq, bind_ite, pair_ite]
      exact SimR.ite (fun _ => rfl) fun _ => rfl
  | l4 =>
    simp only [drainS, drainDrainStep, drainDrainRun, levelsPush, pEnded, pEnd, o0, pLevel_eq, pLoad_eq, bnd, if_true, Bool.false_eq_true, if_false, reduceIte, Int.reduceEq]
    rfl
  | l5 s =>
    have h := lpush_sim (w := w) (v := p) (x := x) hK s
    have hn := lpush_nx (e := e) (w := w) (v := p) (x := x) s
    revert h hn
    simp only [drainS, drainDrainStep, pEnded, pEnd, o0, stepD1, bnd, if_true, Bool.false_eq_true, if_false, reduceIte, Int.reduceEq]
    rcases lpushS w p x e s with ⟨r | ⟨c, y⟩, e'⟩ <;> intro h hn
    · simp only [SimR] at h
      simp only [h, bnd, Bool.not_false, if_true]
      rfl
    · simp only [SimR] at h
      obtain ⟨x', h, ho⟩ := h
      have hc : e'.c = e.c := hn.c
      simp only [h, ho, resultD1, drainDrainAfter, drainDrainPushed, drainDrainRemove, drainDrainRelease, drainDrainRun, injectorRemove, lockRelease, bnd, Bool.not_true, Bool.false_eq_true, if_true, if_false, reduceIte, Int.reduceEq, bind_ite, pair_ite, hc]
      have hb : b = false := hd
      subst hb
      simp only [Bool.false_eq_true, if_false]
      exact SimR.ite (fun _ => rfl) fun _ => SimR.ite (fun _ => rfl) fun _ => rfl
  | l6 =>
    obtain ⟨x', h, ho⟩ := free_sim (e := e)
    simp only [o0] at h
    simp only [drainS, drainDrainStep, drainDrainAfter, drainDrainRun, parkWake, pEnded, pEnd, o0, stepD1, h, ho, bnd, if_true, Bool.false_eq_true, if_false, reduceIte, Int.reduceEq, resultD1, Bool.not_true, bind_ite, pair_ite]
    exact SimR.ite (fun _ => rfl) fun _ => fin_sim (d := ⟨x, b, p, la, n, .l6⟩)
  | l7 s =>
    have h := wake_sim (e := e) (w := w) (v := la) hl s
    revert h
    simp only [drainS, drainDrainStep, pEnded, pEnd, o0, stepD1, bnd, if_true, Bool.false_eq_true, if_false, reduceIte, Int.reduceEq]
    rcases wakeS w la e s with ⟨r | ⟨c, y⟩, e'⟩ <;> intro h
    · simp only [SimR] at h
      simp only [h, bnd, Bool.not_false, if_true]
      rfl
    · simp only [SimR] at h
      obtain ⟨x', h, ho⟩ := h
      simp only [h, ho, resultD1, drainDrainAfter, bnd, Bool.not_true, Bool.false_eq_true, if_true, if_false, reduceIte, Int.reduceEq]
      exact fin_sim (d := ⟨x, b, p, la, n, .l7 s⟩)
theorem drain_ok {w : Int} {d d' : DrainS} {e' : EnvP} (hd : DrainOk d) (h : drainS w e d = (.go d', e')) : DrainOk d' := by
  obtain ⟨x, b, p, la, n, c⟩ := d
  cases c with
  | l1 =>
    simp only [drainS] at h
    split at h <;> cases h
    exact hd
  | l2 =>
    simp only [drainS] at h
    split at h <;> cases h
    exact hd
  | l3 s =>
    simp only [drainS] at h
    split at h
    · cases h; exact hd
    · split at h <;> cases h
      · trivial
      · exact hd
  | l4 => cases h; exact hd
  | l5 s =>
    simp only [drainS] at h
    split at h
    · cases h; exact hd
    · split at h
      · cases h; trivial
      · split at h <;> cases h
        · exact hd
        · trivial
  | l6 =>
    simp only [drainS] at h
    split at h
    · cases h; trivial
    · unfold drainF at h
      repeat' split at h
      all_goals cases h
  | l7 s =>
    simp only [drainS] at h
    split at h
    · cases h; trivial
    · unfold drainF at h
      repeat' split at h
      all_goals cases h
end
end
section
open Go Go.RowKit
set_option maxRecDepth 100000
/-- A stack that is not empty, and not too long. -/
structure SOk (l : List Int) : Prop where
  ne : l ≠ []
  le : l.length ≤ 999999999
section
variable {l : List Int}
theorem SOk.n (h : SOk l) : wi (((l.length : Nat) : Int) - 1) = ((l.length - 1 : Nat) : Int) := by
  have h1 := List.length_pos_iff.2 h.ne
  have h2 := h.le
  rw [wi_id (rg_lit (by omega))]; omega
theorem SOk.a (h : SOk l) : atK1 l ((l.length - 1 : Nat) : Int) = topP l := by
  have h1 := List.length_pos_iff.2 h.ne
  have h2 : l[l.length - 1]? = some (l[l.length - 1]'(by omega)) := List.getElem?_eq_getElem _
  simp only [atK1, atL, topP, Int.toNat_natCast, List.getLast?_eq_getElem?, h2]
  rfl
theorem SOk.g (h : SOk l) : (0 ≤ ((l.length - 1 : Nat) : Int) ∧ ((l.length - 1 : Nat) : Int) < ((l.length : Nat) : Int)) = True := by
  have h1 := List.length_pos_iff.2 h.ne
  exact eq_true ⟨by omega, by omega⟩
theorem SOk.g2 (h : SOk l) : (0 ≤ ((l.length - 1 : Nat) : Int) ∧ ((l.length - 1 : Nat) : Int) ≤ ((l.length : Nat) : Int)) = True := by
  have h1 := List.length_pos_iff.2 h.ne
  exact eq_true ⟨by omega, by omega⟩
theorem SOk.t (h : SOk l) : l.take (((l.length - 1 : Nat) : Int)).toNat = l.dropLast := by
  rw [List.dropLast_eq_take]; simp
theorem SOk.s (h : SOk l) (y : Int) : l.set (((l.length - 1 : Nat) : Int)).toNat y = l.dropLast ++ [y] := by
  obtain ⟨a, b, rfl⟩ : ∃ a b, l = a ++ [b] := ⟨l.dropLast, l.getLast h.ne, (List.dropLast_concat_getLast h.ne).symm⟩
  simp
end
section
variable [Tb] {e : EnvP} {o : OutV} {w ln id ch lv wt : Int} {st : List Int} {m : MV}
theorem at26_set {rs : List RecP} {t : Int} {r : RecP} (h : 0 ≤ t ∧ t < (rs.length : Int)) : atK26 (rs.set t.toNat r) t = r := atL_set h
theorem recs_same {rs : List RecP} {t : Int} (h : 0 ≤ t ∧ t < (rs.length : Int)) : rs.set t.toNat (atK26 rs t) = rs := by
  have h1 := atL_get (d := (dfR 26 : RecP)) (xs := rs) h
  have h2 : t.toNat < rs.length := by omega
  refine List.ext_getElem? fun i => ?_
  by_cases hi : t.toNat = i
  · subst hi
    rw [List.getElem?_set_self h2]
    exact h1.symm
  · rw [List.getElem?_set_ne hi]
def chooseL (x : RecP) (p : List Ins) : Int :=
  if x.waiting ≠ -1 then 1
  else if x.pc < 0 ∨ (p.length : Int) ≤ x.pc then 16
  else if (atK3 p x.pc).op = 0 then 2
  else if (atK3 p x.pc).op = 1 then 4
  else if (atK3 p x.pc).a < 0 ∨ (x.kids.length : Int) ≤ (atK3 p x.pc).a ∨ atK1 x.kids (atK3 p x.pc).a = -1 then 3
  else 9
theorem prog_in {x : RecP} (h1 : ¬ x.prog < 0) (h2 : ¬ (e.c.progs.length : Int) ≤ x.prog) : e.prog x = atL [] e.c.progs x.prog := by
  unfold EnvP.prog
  rw [if_neg (by omega)]
theorem prog_out {x : RecP} (h : x.prog < 0 ∨ (e.c.progs.length : Int) ≤ x.prog) : e.prog x = [] := by
  unfold EnvP.prog
  rw [if_pos h]
theorem choose_eq {x : RunV MV} (hS : SOk x.stack) (hT : 0 ≤ topP x.stack ∧ topP x.stack < (e.recs.length : Int)) : runnerRunChoose x e = some ((chooseL (e.rc (topP x.stack)) (e.prog (e.rc (topP x.stack))), ()), (x, e, ())) := by
  unfold runnerRunChoose
  simp only [hS.n, hS.a, hS.g, hT, and_self, if_true, recs_same hT]
  show _ = some ((chooseL (atK26 e.recs (topP x.stack)) (e.prog (atK26 e.recs (topP x.stack))), ()), (x, e, ()))
  generalize atK26 e.recs (topP x.stack) = r
  by_cases h1 : r.prog < 0
  · rw [prog_out (.inl h1)]
    simp only [h1, if_true, chooseL, List.length_nil]
    split
    · rfl
    · rw [if_pos (show r.pc < 0 ∨ ((0 : Nat) : Int) ≤ r.pc by omega)]
      split
      · rfl
      · rw [if_pos (by omega)]
  by_cases h2 : (e.c.progs.length : Int) ≤ r.prog
  · rw [prog_out (.inr h2)]
    simp only [h1, h2, if_true, if_false, chooseL, List.length_nil]
    split
    · rfl
    · rw [if_pos (show r.pc < 0 ∨ ((0 : Nat) : Int) ≤ r.pc by omega)]
      split
      · rfl
      · rw [if_pos (by omega)]
  rw [prog_in h1 h2]
  generalize atL [] e.c.progs r.prog = p
  unfold chooseL
  rw [if_neg h1, if_neg h2]
  rw [if_pos (show 0 ≤ r.prog ∧ r.prog < (e.c.progs.length : Int) by omega)]
  by_cases hw : r.waiting ≠ -1
  · rw [if_pos hw, if_pos hw]
  rw [if_neg hw, if_neg hw]
  by_cases h3 : r.pc < 0
  · rw [if_pos h3, if_pos (.inl h3)]
  by_cases h4 : (p.length : Int) ≤ r.pc
  · rw [if_neg h3, if_pos h4, if_pos (.inr h4)]
  rw [if_neg h3, if_neg h4, if_neg (show ¬ (r.pc < 0 ∨ (p.length : Int) ≤ r.pc) by omega)]
  have hp : 0 ≤ r.pc ∧ r.pc < (p.length : Int) := by omega
  rw [if_pos hp]
  by_cases c1 : (atK3 p r.pc).op = 0
  · rw [if_pos c1, if_pos c1]
  rw [if_neg c1, if_neg c1, if_pos hp]
  by_cases c2 : (atK3 p r.pc).op = 1
  · rw [if_pos c2, if_pos c2]
  rw [if_neg c2, if_neg c2, if_pos hp]
  by_cases h5 : (atK3 p r.pc).a < 0
  · rw [if_pos h5, if_pos (.inl h5)]
  by_cases h6 : (r.kids.length : Int) ≤ (atK3 p r.pc).a
  · rw [if_neg h5, if_pos h6, if_pos (.inr (.inl h6))]
  rw [if_neg h5, if_neg h6, if_pos (show 0 ≤ (atK3 p r.pc).a ∧ (atK3 p r.pc).a < (r.kids.length : Int) by omega)]
  by_cases h7 : atK1 r.kids (atK3 p r.pc).a = -1
  · rw [if_pos h7, if_pos (.inr (.inr h7))]
  · rw [if_neg h7, if_neg (by omega)]
theorem runEmit_eq {x : RunV MV} {v : Ev} (h : e.evs.length ≤ 999999999) : runnerRunEmit x e v = some ((), (x, { e with evs := e.evs ++ [{ v with worker := x.worker }] }, ())) := by
  unfold runnerRunEmit
  rw [pEmit_eq h, bnd]
theorem simple1 (hS : SOk st) (hT : 0 ≤ topP st ∧ topP st < (e.recs.length : Int)) : runnerRunSimple ⟨o, w, st, 1, m, id, ch, lv, wt⟩ e = some ((false, ()), (⟨o, w, st, 0, .nil, id, ch, lv, wt⟩, (e.pt 2 (waitsP e.l (topP st)) 0).pr (topP st) { e.rc (topP st) with waiting := -1 }, ())) := by
  unfold runnerRunSimple
  simp only [hS.n, hS.a, hS.g, hT, and_self, if_true, pWaits_eq, pStore_eq, runnerRunTo, bnd]
  rfl
theorem simple2 (hS : SOk st) (hT : 0 ≤ topP st ∧ topP st < (e.recs.length : Int)) (hp : ¬ ((e.rc (topP st)).pc < 0 ∨ ((e.prog (e.rc (topP st))).length : Int) ≤ (e.rc (topP st)).pc)) : runnerRunSimple ⟨o, w, st, 2, m, id, ch, lv, wt⟩ e = some ((false, ()), (⟨o, w, st, 0, .nil, id, ch, lv, wt⟩, e.pr (topP st) (compP (e.rc (topP st)) (atK3 (e.prog (e.rc (topP st))) (e.rc (topP st)).pc)), ())) := by
  unfold runnerRunSimple
  simp only [hS.n, hS.a, hS.g, hT, and_self, if_true, Int.reduceEq, if_false, at26_set hT, List.set_set, runnerRunTo, bnd, List.length_set]
  show _ = some ((false, ()), (_, { e with recs := e.recs.set (topP st).toNat (compP (atK26 e.recs (topP st)) (atK3 (e.prog (atK26 e.recs (topP st))) (atK26 e.recs (topP st)).pc)) }, ()))
  have hp' : ¬ ((atK26 e.recs (topP st)).pc < 0 ∨ ((e.prog (atK26 e.recs (topP st))).length : Int) ≤ (atK26 e.recs (topP st)).pc) := hp
  generalize atK26 e.recs (topP st) = r at hp' ⊢
  by_cases h1 : r.prog < 0
  · rw [prog_out (.inl h1)] at hp'; simp only [List.length_nil] at hp'; omega
  by_cases h2 : (e.c.progs.length : Int) ≤ r.prog
  · rw [prog_out (.inr h2)] at hp'; simp only [List.length_nil] at hp'; omega
  rw [prog_in h1 h2] at hp' ⊢
  have h3 : (0 ≤ r.prog ∧ r.prog < (e.c.progs.length : Int)) = True := eq_true (by omega)
  have h4 : (0 ≤ r.pc ∧ r.pc < ((atL [] e.c.progs r.prog).length : Int)) = True := eq_true (by omega)
  simp only [h1, h2, h3, h4, if_true, if_false, compP]
  by_cases h5 : r.left = 0
  · simp only [h5, if_true]
    split <;> rfl
  · simp only [h5, if_false]
    split <;> rfl
theorem simple3 (hS : SOk st) (hT : 0 ≤ topP st ∧ topP st < (e.recs.length : Int)) : runnerRunSimple ⟨o, w, st, 3, m, id, ch, lv, wt⟩ e = some ((false, ()), (⟨o, w, st, 0, .nil, id, ch, lv, wt⟩, e.pr (topP st) { e.rc (topP st) with pc := wi ((e.rc (topP st)).pc + 1) }, ())) := by
  unfold runnerRunSimple
  simp only [hS.n, hS.a, hS.g, hT, and_self, if_true, Int.reduceEq, if_false, runnerRunTo, bnd]
  rfl
end
end
section
open Go Go.RowKit
set_option maxRecDepth 100000
section
variable [Tb] {e : EnvP} {o : OutV} {w ln id ch lv wt : Int} {st : List Int} {m : MV}
theorem alloc_full (hS : SOk st) (hT : 0 ≤ topP st ∧ topP st < (e.recs.length : Int)) (hp : ¬ ((e.rc (topP st)).pc < 0 ∨ ((e.prog (e.rc (topP st))).length : Int) ≤ (e.rc (topP st)).pc)) (hl : e.evs.length ≤ 999999999) (hk : (e.rc (topP st)).kids.length ≤ 999999999) (v : Int) :
    runnerRunAllocated ⟨o, w, st, 4, m, id, ch, lv, wt⟩ e 3 v = some ((false, ()), (⟨o, w, st, 0, .nil, id, ch, lv, wt⟩, (e.pr (topP st) { e.rc (topP st) with pc := wi ((e.rc (topP st)).pc + 1), kids := (e.rc (topP st)).kids ++ [-1] }).em 4 w (topP st) 0 0, ())) := by
  unfold runnerRunAllocated
  have he : ∀ (x : RunV MV) (rs : List RecP) (v : Ev), runnerRunEmit x { e with recs := rs } v = some ((), (x, { e with recs := rs, evs := e.evs ++ [{ v with worker := x.worker }] }, ())) := fun x rs v => runEmit_eq (e := { e with recs := rs }) hl
  simp only [hS.n, hS.a, hS.g, hT, and_self, if_true, at26_set hT, List.set_set, List.length_set]
  have hp' : ¬ ((atK26 e.recs (topP st)).pc < 0 ∨ ((e.prog (atK26 e.recs (topP st))).length : Int) ≤ (atK26 e.recs (topP st)).pc) := hp
  have hk' : (atK26 e.recs (topP st)).kids.length ≤ 999999999 := hk
  show _ = some ((false, ()), (_, EnvP.em { e with recs := e.recs.set (topP st).toNat { atK26 e.recs (topP st) with pc := wi ((atK26 e.recs (topP st)).pc + 1), kids := (atK26 e.recs (topP st)).kids ++ [-1] } } 4 w (topP st) 0 0, ()))
  generalize atK26 e.recs (topP st) = r at hp' hk' ⊢
  by_cases h1 : r.prog < 0
  · rw [prog_out (.inl h1)] at hp'; simp only [List.length_nil] at hp'; omega
  by_cases h2 : (e.c.progs.length : Int) ≤ r.prog
  · rw [prog_out (.inr h2)] at hp'; simp only [List.length_nil] at hp'; omega
  rw [prog_in h1 h2] at hp'
  rw [if_neg h1, if_neg h2, if_pos (show 0 ≤ r.prog ∧ r.prog < (e.c.progs.length : Int) by omega), if_pos (show 0 ≤ r.pc ∧ r.pc < ((atL [] e.c.progs r.prog).length : Int) by omega), if_pos (show (((r.kids.length + ([-1] : List Int).length : Nat)) : Int) < 1000000000000 by rw [List.length_singleton]; omega)]
  rw [he, bnd, runnerRunTo, bnd]
  rfl
theorem alloc_got (hS : SOk st) (hT : 0 ≤ topP st ∧ topP st < (e.recs.length : Int)) (hp : ¬ ((e.rc (topP st)).pc < 0 ∨ ((e.prog (e.rc (topP st))).length : Int) ≤ (e.rc (topP st)).pc)) (hk : (e.rc (topP st)).kids.length ≤ 999999999) (v : Int) (hv : 0 ≤ v ∧ v < (e.recs.length : Int)) :
    runnerRunAllocated ⟨o, w, st, 4, m, id, ch, lv, wt⟩ e 1 v = some ((false, ()), (⟨o, w, st, 5, .publish ⟨o0, v, (atK3 (e.prog (e.rc (topP st))) (e.rc (topP st)).pc).b, 1⟩, v, ch, (atK3 (e.prog (e.rc (topP st))) (e.rc (topP st)).pc).b, wt⟩, (e.pr (topP st) { e.rc (topP st) with pc := wi ((e.rc (topP st)).pc + 1), kids := (e.rc (topP st)).kids ++ [v] }).pr v (newP (atK3 (e.prog (e.rc (topP st))) (e.rc (topP st)).pc).a (topP st)), ())) := by
  unfold runnerRunAllocated
  simp only [hS.n, hS.a, hS.g, hT, and_self, if_true, at26_set hT, List.set_set, List.length_set, Int.reduceEq, if_false, hv]
  have hp' : ¬ ((atK26 e.recs (topP st)).pc < 0 ∨ ((e.prog (atK26 e.recs (topP st))).length : Int) ≤ (atK26 e.recs (topP st)).pc) := hp
  have hk' : (atK26 e.recs (topP st)).kids.length ≤ 999999999 := hk
  show _ = some ((false, ()), ((⟨o, w, st, 5, .publish ⟨o0, v, (atK3 (e.prog (atK26 e.recs (topP st))) (atK26 e.recs (topP st)).pc).b, 1⟩, v, ch, (atK3 (e.prog (atK26 e.recs (topP st))) (atK26 e.recs (topP st)).pc).b, wt⟩ : RunV MV), ({ e with recs := (e.recs.set (topP st).toNat { atK26 e.recs (topP st) with pc := wi ((atK26 e.recs (topP st)).pc + 1), kids := (atK26 e.recs (topP st)).kids ++ [v] }).set v.toNat ⟨(atK3 (e.prog (atK26 e.recs (topP st))) (atK26 e.recs (topP st)).pc).a, topP st, 0, 0, -1, [], false⟩ } : EnvP), ()))
  generalize atK26 e.recs (topP st) = r at hp' hk' ⊢
  by_cases h1 : r.prog < 0
  · rw [prog_out (.inl h1)] at hp'; simp only [List.length_nil] at hp'; omega
  by_cases h2 : (e.c.progs.length : Int) ≤ r.prog
  · rw [prog_out (.inr h2)] at hp'; simp only [List.length_nil] at hp'; omega
  rw [prog_in h1 h2] at hp' ⊢
  rw [if_neg h1, if_neg h2, if_pos (show 0 ≤ r.prog ∧ r.prog < (e.c.progs.length : Int) by omega), if_pos (show 0 ≤ r.pc ∧ r.pc < ((atL [] e.c.progs r.prog).length : Int) by omega), if_pos (show (((r.kids.length + ([v] : List Int).length : Nat)) : Int) < 1000000000000 by rw [List.length_singleton]; omega)]
  rw [tablePublish, bnd, runnerRunTo, bnd]
theorem join9 (hS : SOk st) (hT : 0 ≤ topP st ∧ topP st < (e.recs.length : Int)) (hp : ¬ ((e.rc (topP st)).pc < 0 ∨ ((e.prog (e.rc (topP st))).length : Int) ≤ (e.rc (topP st)).pc)) (ha : ¬ ((atK3 (e.prog (e.rc (topP st))) (e.rc (topP st)).pc).a < 0 ∨ ((e.rc (topP st)).kids.length : Int) ≤ (atK3 (e.prog (e.rc (topP st))) (e.rc (topP st)).pc).a)) :
    runnerRunJoin ⟨o, w, st, 9, m, id, ch, lv, wt⟩ e = some ((false, ()), (⟨o, w, st, 10, .nil, id, atK1 (e.rc (topP st)).kids (atK3 (e.prog (e.rc (topP st))) (e.rc (topP st)).pc).a, lv, wt⟩, (e.pt 2 (waitsP e.l (topP st)) (wu (wi (atK1 (e.rc (topP st)).kids (atK3 (e.prog (e.rc (topP st))) (e.rc (topP st)).pc).a + 1)))).pr (topP st) { e.rc (topP st) with pc := wi ((e.rc (topP st)).pc + 1), waiting := atK1 (e.rc (topP st)).kids (atK3 (e.prog (e.rc (topP st))) (e.rc (topP st)).pc).a }, ())) := by
  unfold runnerRunJoin
  simp only [hS.n, hS.a, hS.g, hT, and_self, if_true, recs_same hT, at26_set hT, List.set_set, List.length_set]
  have hp' : ¬ ((atK26 e.recs (topP st)).pc < 0 ∨ ((e.prog (atK26 e.recs (topP st))).length : Int) ≤ (atK26 e.recs (topP st)).pc) := hp
  have ha' : ¬ ((atK3 (e.prog (atK26 e.recs (topP st))) (atK26 e.recs (topP st)).pc).a < 0 ∨ ((atK26 e.recs (topP st)).kids.length : Int) ≤ (atK3 (e.prog (atK26 e.recs (topP st))) (atK26 e.recs (topP st)).pc).a) := ha
  show _ = some ((false, ()), ((⟨o, w, st, 10, .nil, id, atK1 (atK26 e.recs (topP st)).kids (atK3 (e.prog (atK26 e.recs (topP st))) (atK26 e.recs (topP st)).pc).a, lv, wt⟩ : RunV MV), EnvP.pr (e.pt 2 (waitsP e.l (topP st)) (wu (wi (atK1 (atK26 e.recs (topP st)).kids (atK3 (e.prog (atK26 e.recs (topP st))) (atK26 e.recs (topP st)).pc).a + 1)))) (topP st) { atK26 e.recs (topP st) with pc := wi ((atK26 e.recs (topP st)).pc + 1), waiting := atK1 (atK26 e.recs (topP st)).kids (atK3 (e.prog (atK26 e.recs (topP st))) (atK26 e.recs (topP st)).pc).a }, ()))
  generalize atK26 e.recs (topP st) = r at hp' ha' ⊢
  by_cases h1 : r.prog < 0
  · rw [prog_out (.inl h1)] at hp'; simp only [List.length_nil] at hp'; omega
  by_cases h2 : (e.c.progs.length : Int) ≤ r.prog
  · rw [prog_out (.inr h2)] at hp'; simp only [List.length_nil] at hp'; omega
  rw [prog_in h1 h2] at hp' ha' ⊢
  rw [if_neg h1, if_neg h2, if_pos (show 0 ≤ r.prog ∧ r.prog < (e.c.progs.length : Int) by omega), if_pos (show 0 ≤ r.pc ∧ r.pc < ((atL [] e.c.progs r.prog).length : Int) by omega), if_pos (show 0 ≤ (atK3 (atL [] e.c.progs r.prog) r.pc).a ∧ (atK3 (atL [] e.c.progs r.prog) r.pc).a < (r.kids.length : Int) by omega)]
  rw [pWaits_eq, bnd, pStore_eq, bnd, runnerRunTo, bnd]
  rfl
theorem rebind {α β : Type} {X : Option ((Bool × Unit) × (α × β × Unit))} : (X.bind fun r => some ((r.1.1, ()), (r.2.1, r.2.2.1, ()))) = X := by cases X <;> rfl
theorem run_top (hS : SOk st) (hT : IsT e (topP st)) (hc : e.c.tasks = (e.recs.length : Int)) (X : Option ((Bool × Unit) × (RunV MV × EnvP × Unit))) (a b c : Option ((Bool × Unit) × (RunV MV × EnvP × Unit))) :
    (if topP st < 0 then a else if e.c.tasks ≤ topP st then b else if (e.recs.length : Int) ≤ topP st then c else X) = X := by
  have h1 := hT.1
  have h2 := hT.2
  rw [if_neg (by omega), if_neg (by omega), if_neg (by omega)]
theorem run_spawn (hS : SOk st) (hT : IsT e (topP st)) (hc : e.c.tasks = (e.recs.length : Int)) (h : 4 ≤ ln ∧ ln ≤ 8) : runnerRunStep ⟨o0, w, st, ln, m, id, ch, lv, wt⟩ e = runnerRunSpawn ⟨o0, w, st, ln, m, id, ch, lv, wt⟩ e := by
  unfold runnerRunStep
  simp only [pEnded, pEnd, o0, bnd, hS.n, hS.a, hS.g, if_true, Bool.false_eq_true, if_false, rebind, run_top hS hT hc]
  rw [if_neg (by omega), if_neg (by omega), if_neg (by omega), if_neg (by omega), if_pos h.1, if_pos h.2]
theorem run_join (hS : SOk st) (hT : IsT e (topP st)) (hc : e.c.tasks = (e.recs.length : Int)) (h : 9 ≤ ln ∧ ln ≤ 15) : runnerRunStep ⟨o0, w, st, ln, m, id, ch, lv, wt⟩ e = runnerRunJoin ⟨o0, w, st, ln, m, id, ch, lv, wt⟩ e := by
  unfold runnerRunStep
  simp only [pEnded, pEnd, o0, bnd, hS.n, hS.a, hS.g, if_true, Bool.false_eq_true, if_false, rebind, run_top hS hT hc]
  rw [if_neg (by omega), if_neg (by omega), if_neg (by omega), if_neg (by omega), if_pos (show 4 ≤ ln by omega), if_neg (by omega), if_pos h.1, if_pos h.2]
theorem run_finish (hS : SOk st) (hT : IsT e (topP st)) (hc : e.c.tasks = (e.recs.length : Int)) (h : 16 ≤ ln) : runnerRunStep ⟨o0, w, st, ln, m, id, ch, lv, wt⟩ e = runnerRunFinish ⟨o0, w, st, ln, m, id, ch, lv, wt⟩ e := by
  unfold runnerRunStep
  simp only [pEnded, pEnd, o0, bnd, hS.n, hS.a, hS.g, if_true, Bool.false_eq_true, if_false, rebind, run_top hS hT hc]
  rw [if_neg (by omega), if_neg (by omega), if_neg (by omega), if_neg (by omega), if_pos (show 4 ≤ ln by omega), if_neg (by omega), if_pos (show 9 ≤ ln by omega), if_neg (by omega)]
theorem run_next (hS : SOk st) (hT : IsT e (topP st)) (hc : e.c.tasks = (e.recs.length : Int)) {c : Int} (h : chooseL (e.rc (topP st)) (e.prog (e.rc (topP st))) = c) (hR : 0 ≤ topP st ∧ topP st < (e.recs.length : Int)) :
    runnerRunStep ⟨o0, w, st, 0, m, id, ch, lv, wt⟩ e = if c = 4 then runnerRunSpawn ⟨o0, w, st, 4, .alloc ⟨o0⟩, id, ch, lv, wt⟩ e else if c = 1 ∨ c = 2 ∨ c = 3 then runnerRunSimple ⟨o0, w, st, c, m, id, ch, lv, wt⟩ e else if c = 9 then runnerRunJoin ⟨o0, w, st, c, m, id, ch, lv, wt⟩ e else runnerRunFinish ⟨o0, w, st, c, m, id, ch, lv, wt⟩ e := by
  have hch := choose_eq (x := ⟨⟨false, 0, 0⟩, w, st, 0, m, id, ch, lv, wt⟩) hS hR
  simp only [h] at hch
  have hv : c = 1 ∨ c = 16 ∨ c = 2 ∨ c = 4 ∨ c = 3 ∨ c = 9 := by
    rw [← h]
    unfold chooseL
    repeat' split
    all_goals simp
  unfold runnerRunStep
  simp only [pEnded, pEnd, o0, bnd, hS.n, hS.a, hS.g, if_true, Bool.false_eq_true, if_false, rebind, run_top hS hT hc, hch, tableAllocate]
  rcases hv with rfl | rfl | rfl | rfl | rfl | rfl <;> simp only [Int.reduceEq, Int.reduceLE, if_true, if_false, or_self, or_true, true_or, false_or, or_false]
end
end
section
open Go Go.RowKit
set_option maxRecDepth 100000
@[reducible] def runCC (l : LayV) (w id lv wt : Int) : RunC → Int × MV
  | .next => (0, .nil)
  | .s2 s => (5, .publish (publishC id lv s))
  | .s3 s => (6, .lpush (lpushC l w lv id s))
  | .s4 s => (7, .wake (wakeC w lv s))
  | .s5 => (8, .claim ⟨o0, w, id⟩)
  | .j2 => (10, .nil)
  | .j3 => (11, .nil)
  | .j4 => (12, .nil)
  | .j5 s => (13, .walk (walkC l w lv s))
  | .j6 => (14, .nil)
  | .j7 => (15, .nil)
  | .f2 => (17, .nil)
  | .f3 => (18, .nil)
  | .f4 s => (19, .enter (enterC l w wt s))
  | .f5 v s => (20, .wake (wakeC w v s))
  | .f6 => (21, .claim ⟨o0, w, wt⟩)
@[reducible] def runC (l : LayV) (w : Int) (r : RunS) : RunV MV :=
  ⟨o0, w, r.stack, (runCC l w r.id r.level r.waiter r.c).1, (runCC l w r.id r.level r.waiter r.c).2, r.id, r.child, r.level, r.waiter⟩
section
variable [Tb] {K : Nat} {e : EnvP} {w : Int}
theorem leave_sim {l : LayV} {e' : EnvP} {st : List Int} {ln id ch lv wt : Int} {m : MV} {c : RunC} (hS : SOk st) : SimR RunV.o (runC l w) ((runnerRunLeave ⟨⟨false, 0, 0⟩, w, st, ln, m, id, ch, lv, wt⟩).bind fun r => some ((r.1.1, ()), (r.2.1, e', ()))) (leaveS ⟨st, id, ch, lv, wt, c⟩ e') := by
  have h1 := List.length_pos_iff.2 hS.ne
  have h2 := hS.le
  unfold runnerRunLeave leaveS
  simp only [hS.n, hS.g2, hS.t, if_true, List.length_dropLast, pEnd, runnerRunTo, bnd, bind_ite, pair_ite]
  by_cases hl : st.length = 1
  · rw [if_pos (by omega), if_pos hl]; exact ⟨_, rfl, rfl⟩
  · rw [if_neg (by omega), if_neg hl]; rfl
theorem run_sim (hK : EOk K e) (hk : K ≤ 100000000) (r : RunS) (hS : SOk r.stack) : SimR RunV.o (runC e.l w) (runnerRunStep (runC e.l w r) e) (runS w e r) := by
  have hl : e.evs.length ≤ 999999999 := by have := hK.ev; omega
  obtain ⟨st, id, ch, lv, wt, c⟩ := r
  have hS : SOk st := hS
  unfold runS
  by_cases hT : IsT e (topP st)
  · have hR : 0 ≤ topP st ∧ topP st < (e.recs.length : Int) := ⟨hT.1, by have := hT.2; have := hK.ct; omega⟩
    have hct := hK.ct
    have he : ∀ (x : RunV MV) (e' : EnvP) (_ : e'.evs.length ≤ 999999999) (v : Ev), runnerRunEmit x e' v = some ((), (x, { e' with evs := e'.evs ++ [{ v with worker := x.worker }] }, ())) := fun x e' h v => runEmit_eq h
    rw [if_neg (fun h => h hT)]
    unfold runG
    cases c with
    | next =>
      simp only [nextS]
      have hkd : (e.rc (topP st)).kids.length ≤ 999999999 := by have := rc_kids hR K hK.kd; omega
      have hnx := fun c h => run_next (w := w) (id := id) (ch := ch) (lv := lv) (wt := wt) (m := .nil) hS hT hct (c := c) h hR
      by_cases c1 : (e.rc (topP st)).waiting ≠ -1
      · rw [if_pos c1]
        rw [hnx 1 (by unfold chooseL; rw [if_pos c1])]
        simp only [Int.reduceEq, if_false, true_or, if_true]
        rw [simple1 hS hR]
        rfl
      rw [if_neg c1]
      by_cases c2 : (e.rc (topP st)).pc < 0 ∨ ((e.prog (e.rc (topP st))).length : Int) ≤ (e.rc (topP st)).pc
      · rw [if_pos c2]
        rw [hnx 16 (by unfold chooseL; rw [if_neg c1, if_pos c2])]
        simp only [Int.reduceEq, if_false, or_self]
        simp only [runnerRunFinish, hS.n, hS.a, hS.g, if_true, pState_eq, pStore_eq, runnerRunTo, bnd]
        rfl
      rw [if_neg c2]
      by_cases c3 : (atK3 (e.prog (e.rc (topP st))) (e.rc (topP st)).pc).op = 0
      · rw [if_pos c3]
        rw [hnx 2 (by unfold chooseL; rw [if_neg c1, if_neg c2, if_pos c3])]
        simp only [Int.reduceEq, if_false, false_or, true_or, or_true, if_true]
        rw [simple2 hS hR c2]
        rfl
      rw [if_neg c3]
      by_cases c4 : (atK3 (e.prog (e.rc (topP st))) (e.rc (topP st)).pc).op = 1
      · rw [if_pos c4]
        rw [hnx 4 (by unfold chooseL; rw [if_neg c1, if_neg c2, if_neg c3, if_pos c4])]
        obtain ⟨x', h, ho⟩ := alloc_sim (e := e)
        simp only [if_true, runnerRunSpawn, stepD2, bnd, h, resultD2, Bool.not_true, Bool.false_eq_true, if_false]
        by_cases ci : IsT e (wi (e.gt 0))
        · rw [if_pos ci] at ho ⊢
          have hv : 0 ≤ wi (e.gt 0) ∧ wi (e.gt 0) < ((allocE e).recs.length : Int) := ⟨ci.1, by have := ci.2; show _ < (e.recs.length : Int); omega⟩
          have ha := alloc_got (e := allocE e) (o := o0) (w := w) (id := id) (ch := ch) (lv := lv) (wt := wt) (m := .alloc x') hS hR c2 hkd (wi (e.gt 0)) hv
          simp only [ho]
          rw [ha]
          rfl
        · rw [if_neg ci] at ho ⊢
          have ha := alloc_full (e := allocE e) (o := o0) (w := w) (id := id) (ch := ch) (lv := lv) (wt := wt) (m := .alloc x') hS hR c2 hl hkd 0
          simp only [ho]
          rw [ha]
          rfl
      rw [if_neg c4]
      by_cases c5 : (atK3 (e.prog (e.rc (topP st))) (e.rc (topP st)).pc).a < 0 ∨ ((e.rc (topP st)).kids.length : Int) ≤ (atK3 (e.prog (e.rc (topP st))) (e.rc (topP st)).pc).a ∨ atK1 (e.rc (topP st)).kids (atK3 (e.prog (e.rc (topP st))) (e.rc (topP st)).pc).a = -1
      · rw [if_pos c5]
        rw [hnx 3 (by unfold chooseL; rw [if_neg c1, if_neg c2, if_neg c3, if_neg c4, if_pos c5])]
        simp only [Int.reduceEq, if_false, false_or, or_true, if_true]
        rw [simple3 hS hR]
        rfl
      · rw [if_neg c5]
        rw [hnx 9 (by unfold chooseL; rw [if_neg c1, if_neg c2, if_neg c3, if_neg c4, if_neg c5])]
        simp only [Int.reduceEq, if_false, or_self, if_true]
        rw [join9 hS hR c2 (fun h => c5 (h.elim .inl fun h => .inr (.inl h)))]
        rfl
    | s2 s =>
      have h := publish_sim (e := e) (t := id) (v := lv) s
      have hn := publish_nx (e := e) (t := id) (v := lv) s
      simp only [run_spawn hS hT hct (show (4 : Int) ≤ 5 ∧ (5 : Int) ≤ 8 by decide)]
      revert h hn
      simp only [runnerRunSpawn, stepD2, bnd]
      rcases publishS id lv e s with ⟨r | ⟨c, y⟩, e'⟩ <;> intro h hn
      · simp only [SimR] at h
        simp only [h, bnd, Bool.not_false, if_true]
        rfl
      · simp only [SimR] at h
        obtain ⟨x', h, ho⟩ := h
        have hl' : e'.evs.length ≤ 999999999 := by have h1 : e'.evs.length ≤ e.evs.length + 0 := hn.ev; have := hK.ev; omega
        simp only [h, ho, resultD2, bnd, Bool.not_true, Bool.false_eq_true, if_false, if_true, Int.reduceEq, hS.n, hS.a, hS.g, he _ e' hl', levelsPush, runnerRunTo]
        rfl
    | s3 s =>
      have h := lpush_sim (w := w) (v := lv) (x := id) hK s
      simp only [run_spawn hS hT hct (show (4 : Int) ≤ 6 ∧ (6 : Int) ≤ 8 by decide)]
      revert h
      simp only [runnerRunSpawn, stepD2, bnd]
      rcases lpushS w lv id e s with ⟨r | ⟨c, y⟩, e'⟩ <;> intro h
      · simp only [SimR] at h
        simp only [h, bnd, Bool.not_false, if_true]
        rfl
      · simp only [SimR] at h
        obtain ⟨x', h, ho⟩ := h
        simp only [h, ho, resultD2, bnd, Bool.not_true, Bool.false_eq_true, if_false, if_true, Int.reduceEq, tableClaim, parkWake, runnerRunTo]
        by_cases hc : c = 3
        · simp only [hc, if_true]; rfl
        · simp only [hc, if_false]; rfl
    | s4 s =>
      have h := wake_sim (e := e) (w := w) (v := lv) hl s
      simp only [run_spawn hS hT hct (show (4 : Int) ≤ 7 ∧ (7 : Int) ≤ 8 by decide)]
      revert h
      simp only [runnerRunSpawn, stepD2, bnd]
      rcases wakeS w lv e s with ⟨r | ⟨c, y⟩, e'⟩ <;> intro h
      · simp only [SimR] at h
        simp only [h, bnd, Bool.not_false, if_true]
        rfl
      · simp only [SimR] at h
        obtain ⟨x', h, ho⟩ := h
        simp only [h, ho, resultD2, bnd, Bool.not_true, Bool.false_eq_true, if_false, if_true, Int.reduceEq, runnerRunTo]
        rfl
    | s5 =>
      obtain ⟨x', h, ho⟩ := claim_sim (w := w) (t := id) hl hK.st
      simp only [run_spawn hS hT hct (show (4 : Int) ≤ 8 ∧ (8 : Int) ≤ 8 by decide)]
      simp only [runnerRunSpawn, stepD2, bnd, h, resultD2, Bool.not_true, Bool.false_eq_true, if_false, if_true, Int.reduceEq, runnerRunTo]
      have hsl : ((st.length + ([id] : List Int).length : Nat) : Int) < 1000000000000 := by
        have h2 : st.length ≤ 999999999 := hS.le
        clear hR hct hl hk hK
        trace_state
        rw [List.length_singleton]
        omega
      rcases Bool.eq_false_or_eq_true (claimB id e) with hc | hc
      · simp only [hc, if_true] at ho ⊢
        simp only [ho, if_true, hsl]
        rfl
      · simp only [hc, Bool.false_eq_true, if_false] at ho ⊢
        simp only [ho, Int.reduceEq, if_false]
        rfl
    | j2 =>
      simp only [run_join hS hT hct (show (9 : Int) ≤ 10 ∧ (10 : Int) ≤ 15 by decide), runnerRunJoin, hS.n, hS.a, hS.g, if_true, Int.reduceEq, if_false, pState_eq, pStore_eq, runnerRunTo, bnd]
      rfl
    | j3 =>
      simp only [run_join hS hT hct (show (9 : Int) ≤ 11 ∧ (11 : Int) ≤ 15 by decide), runnerRunJoin, hS.n, hS.a, hS.g, if_true, Int.reduceEq, if_false, pJoin_eq, pCAS_eq, runnerRunTo, he _ { e with m := e.m.cas (joinP e.l ch) 0 (wu (wi (topP st + 1))) } hl, bnd]
      exact SimR.iteN (fun _ => rfl) fun _ => rfl
    | j4 =>
      simp only [run_join hS hT hct (show (9 : Int) ≤ 12 ∧ (12 : Int) ≤ 15 by decide), runnerRunJoin, hS.n, hS.a, hS.g, if_true, Int.reduceEq, if_false, pLevel_eq, pLoad_eq, boostWalk, runnerRunTo, bnd]
      rfl
    | j5 s =>
      have h := walk_sim (w := w) (v := lv) hK hk s
      have hn := walk_nx (e := e) (w := w) (v := lv) s
      simp only [run_join hS hT hct (show (9 : Int) ≤ 13 ∧ (13 : Int) ≤ 15 by decide)]
      revert h hn
      simp only [runnerRunJoin, hS.n, hS.a, hS.g, if_true, Int.reduceEq, if_false, stepD2, bnd]
      rcases walkS w lv e s with ⟨r | ⟨c, y⟩, e'⟩ <;> intro h hn
      · simp only [SimR] at h
        simp only [h, bnd, Bool.not_false, if_true]
        rfl
      · simp only [SimR] at h
        obtain ⟨x', h, ho⟩ := h
        have hl' : e'.evs.length ≤ 999999999 := by have h1 : e'.evs.length ≤ e.evs.length + 1 := hn.ev; have := hK.ev; omega
        simp only [h, bnd, Bool.not_true, Bool.false_eq_true, if_false, he _ e' hl']
        exact leave_sim hS
    | j6 =>
      simp only [run_join hS hT hct (show (9 : Int) ≤ 14 ∧ (14 : Int) ≤ 15 by decide), runnerRunJoin, hS.n, hS.a, hS.g, if_true, Int.reduceEq, if_false, pState_eq, pStore_eq, runnerRunTo, bnd]
      rfl
    | j7 =>
      simp only [run_join hS hT hct (show (9 : Int) ≤ 15 ∧ (15 : Int) ≤ 15 by decide), runnerRunJoin, hS.n, hS.a, hS.g, hR, and_self, if_true, Int.reduceEq, if_false, pWaits_eq, pStore_eq, runnerRunTo, bnd]
      have he2 : ∀ (x : RunV MV) (m' : MemV) (rs : List RecP) (v : Ev), runnerRunEmit x { e with m := m', recs := rs } v = some ((), (x, { e with m := m', recs := rs, evs := e.evs ++ [{ v with worker := x.worker }] }, ())) := fun x m' rs v => runEmit_eq (e := { e with m := m', recs := rs }) hl
      rw [he2, bnd]
      rfl
    | f2 =>
      simp only [run_finish hS hT hct (show (16 : Int) ≤ 17 by decide), runnerRunFinish, hS.n, hS.a, hS.g, if_true, Int.reduceEq, if_false, pJoin_eq, pCAS_eq, runnerRunTo, he _ { e with m := e.m.cas (joinP e.l (topP st)) 0 4294967296 } hl, bnd]
      refine SimR.ite (fun _ => ?_) fun _ => rfl
      exact leave_sim hS
    | f3 =>
      simp only [run_finish hS hT hct (show (16 : Int) ≤ 18 by decide), runnerRunFinish, hS.n, hS.a, hS.g, if_true, Int.reduceEq, if_false, pJoin_eq, pLoad_eq, runnerRunTo, tableEnter, bnd]
      by_cases h1 : wi (wi (e.m.gt (joinP e.l (topP st))) - 1) < 0
      · rw [if_pos h1, if_neg (show ¬ IsT e (wi (wi (e.m.gt (joinP e.l (topP st))) - 1)) from fun h => by have := h.1; omega)]
        exact leave_sim hS
      by_cases h2 : e.c.tasks ≤ wi (wi (e.m.gt (joinP e.l (topP st))) - 1)
      · rw [if_neg h1, if_pos h2, if_neg (show ¬ IsT e (wi (wi (e.m.gt (joinP e.l (topP st))) - 1)) from fun h => by have := h.2; omega)]
        exact leave_sim hS
      · rw [if_neg h1, if_neg h2, if_pos (show IsT e (wi (wi (e.m.gt (joinP e.l (topP st))) - 1)) from ⟨by omega, by omega⟩)]
        rfl
    | f4 s =>
      have h := enter_sim (w := w) (t := wt) hK s
      simp only [run_finish hS hT hct (show (16 : Int) ≤ 19 by decide)]
      revert h
      simp only [runnerRunFinish, hS.n, hS.a, hS.g, if_true, Int.reduceEq, if_false, stepD2, bnd]
      rcases enterS w wt e s with ⟨r | ⟨c, y⟩, e'⟩ <;> intro h
      · simp only [SimR] at h
        simp only [h, bnd, Bool.not_false, if_true]
        rfl
      · simp only [SimR] at h
        obtain ⟨x', h, ho⟩ := h
        simp only [h, ho, resultD2, bnd, Bool.not_true, Bool.false_eq_true, if_false, if_true, Int.reduceEq, tableClaim, parkWake, runnerRunTo]
        by_cases hc : c = 3
        · simp only [hc, if_true]; rfl
        · simp only [hc, if_false]; rfl
    | f5 v s =>
      have h := wake_sim (e := e) (w := w) (v := v) hl s
      simp only [run_finish hS hT hct (show (16 : Int) ≤ 20 by decide)]
      revert h
      simp only [runnerRunFinish, hS.n, hS.a, hS.g, if_true, Int.reduceEq, if_false, stepD2, bnd]
      rcases wakeS w v e s with ⟨r | ⟨c, y⟩, e'⟩ <;> intro h
      · simp only [SimR] at h
        simp only [h, bnd, Bool.not_false, if_true]
        rfl
      · simp only [SimR] at h
        obtain ⟨x', h, ho⟩ := h
        simp only [h, ho, resultD2, bnd, Bool.not_true, Bool.false_eq_true, if_false]
        exact leave_sim hS
    | f6 =>
      obtain ⟨x', h, ho⟩ := claim_sim (w := w) (t := wt) hl hK.st
      simp only [run_finish hS hT hct (show (16 : Int) ≤ 21 by decide)]
      simp only [runnerRunFinish, hS.n, hS.a, hS.g, hS.s, stepD2, bnd, h, resultD2, Bool.not_true, Bool.false_eq_true, if_false, if_true, Int.reduceEq, runnerRunTo]
      rcases Bool.eq_false_or_eq_true (claimB wt e) with hc | hc
      · simp only [hc, if_true] at ho ⊢
        simp only [ho, if_true]
        rfl
      · simp only [hc, Bool.false_eq_true, if_false] at ho ⊢
        simp only [ho, Int.reduceEq, if_false]
        exact leave_sim hS
  · rw [if_pos hT]
    have hb : topP st < 0 ∨ e.c.tasks ≤ topP st := by
      unfold IsT at hT
      omega
    simp only [runnerRunStep, pEnded, pEnd, o0, bnd, hS.n, hS.a, hS.g, if_true, Bool.false_eq_true, if_false]
    rcases hb with hb | hb
    · rw [if_pos hb]; exact ⟨_, rfl, rfl⟩
    · by_cases h0 : topP st < 0
      · rw [if_pos h0]; exact ⟨_, rfl, rfl⟩
      · rw [if_neg h0, if_pos hb]; exact ⟨_, rfl, rfl⟩
end
end
end Go.Proofs.YtgiagoeoifgliaaGreat
