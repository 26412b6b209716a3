/- The law BoundRounds: an engine's entries one by one, until all is done. BoundRounds by names. BoundRounds by names. BoundRounds by names. BoundRounds by names. -/
import Derived.Test.YtgiagoeoifgliaaGreatBqaq
import Derived.Test.YtgiagoeoifgliaaGreatBqas
set_option linter.all false
namespace Go.Proofs.YtgiagoeoifgliaaGreat
section
open Go Go.RowKit
set_option maxRecDepth 100000
variable [Tb]
theorem stamp_good2 {N : Nat} {env : EnvP} {eng : EngT} (F : (EnvP × EngT × Unit → Option (EnvP × EngT × Unit)) → EnvP × EngT × Unit → Option (EnvP × EngT × Unit))
    (hF : ∀ self x, F self x = if ((x.2.1.2.1.length : Nat) : Int) < ((x.1.evs.length : Nat) : Int) then
        if (((x.2.1.2.1.length + ([x.2.1.1] : List Int).length : Nat)) : Int) < 1000000000000 then self (x.1, (x.2.1.1, x.2.1.2.1 ++ ([x.2.1.1]), x.2.1.2.2.1, x.2.1.2.2.2.1, x.2.1.2.2.2.2.1, x.2.1.2.2.2.2.2.1, ()), ()) else none
      else some (x.1, (x.2.1.1, x.2.1.2.1, x.2.1.2.2.1, x.2.1.2.2.2.1, x.2.1.2.2.2.2.1, x.2.1.2.2.2.2.2.1, ()), ()))
    (h : eng.2.1.length ≤ N) (he : env.evs.length ≤ N) (hN : N ≤ 999999999) :
    Good (lpF F 18446744073709551616 (env, eng, ())) fun z => z.1 = env ∧ z.2.1.2.1.length ≤ N := by
  refine lp_good (fun x => x.1 = env ∧ x.2.1.2.1.length ≤ N) (fun x => env.evs.length - x.2.1.2.1.length) (fun self x hx ih => ?_) _ _ ⟨rfl, h⟩ (by show env.evs.length - _ < _; omega)
  obtain ⟨e, ⟨n, st, a, b, c, d, ⟨⟩⟩, ⟨⟩⟩ := x
  obtain ⟨h1, h2⟩ := hx
  simp only at h1 h2
  subst h1
  rw [hF]
  refine Good.ite (fun hlt => ?_) fun hge => .some_ ⟨rfl, h2⟩
  have hlt : ((st.length : Nat) : Int) < ((e.evs.length : Nat) : Int) := hlt
  refine Good.guard (by simp only [List.length_singleton]; omega) fun _ => ?_
  refine ih _ ⟨rfl, ?_⟩ ?_
  · show (st ++ [n]).length ≤ _
    rw [List.length_append, List.length_singleton]
    omega
  · show e.evs.length - (st ++ [n]).length < e.evs.length - st.length
    rw [List.length_append, List.length_singleton]
    omega
theorem ttail_good {σ : Type} {N : Nat} {c0 : Int} {env : EnvP} {eng : EngT} {self : EnvP → EngT → Option σ} {P : σ → Prop}
    (hev : env.evs.length ≤ N) (hst : eng.2.1.length ≤ N) (hN : N ≤ 999999999)
    (hs : ∀ eng' : EngT, eng'.2.1.length ≤ N → Good (self env eng') P) : Good (travTail c0 env eng self) P := by
  unfold travTail
  rw [count_eq, bnd]
  refine Good.ite (fun _ => ?_) fun _ => ?_
  · rw [last_eq, bnd]
    refine Good.bind (stamp_good2 _ (fun _ _ => rfl) (by exact hst) (by exact hev) hN) fun z hz => ?_
    obtain ⟨z1, z2⟩ := hz
    rw [z1]
    exact hs _ z2
  · refine Good.bind (stamp_good2 _ (fun _ _ => rfl) (by exact hst) (by exact hev) hN) fun z hz => ?_
    obtain ⟨z1, z2⟩ := hz
    rw [z1]
    exact hs _ z2
theorem travTail_bind {σ τ : Type} {c0 : Int} {env : EnvP} {eng : EngT} {f : EnvP → EngT → Option σ} {g : σ → Option τ} : (travTail c0 env eng f).bind g = travTail c0 env eng fun e q => (f e q).bind g := by
  unfold travTail
  rw [count_eq, bnd, bnd]
  by_cases h : c0 < env.m.count
  · rw [if_pos h, if_pos h]
    simp only [Option.bind_assoc]
  · rw [if_neg h, if_neg h]
    simp only [Option.bind_assoc]
/-- Entry by entry. -/
def runF {α σ : Type} (step : α → σ → Option σ) : List α → σ → Option σ
  | [], s => some s
  | x :: l, s => (step x s).bind fun s' => runF step l s'
theorem drop_cons {α : Type} {l : List α} {i : Int} (d : α) (h : 0 ≤ i ∧ i < (l.length : Int)) : l.drop i.toNat = atL d l i :: l.drop (i + 1).toNat := by
  have hi : i.toNat < l.length := by omega
  rw [List.drop_eq_getElem_cons hi]
  have e1 : (i + 1).toNat = i.toNat + 1 := by omega
  have e2 := atL_get (d := d) h
  rw [List.getElem?_eq_getElem hi] at e2
  rw [e1, Option.some.inj e2]
section
variable {σ : Type} {step : EntV → σ → Option σ} {F : List EntV → (Int × σ → Option (Int × σ)) → Int × σ → Option (Int × σ)}
theorem run_lp (hF : ∀ l self i s, l.length ≤ 1000000 → 0 ≤ i → i ≤ (l.length : Int) → F l self (i, s) = if i < (l.length : Int) then (step (atK5 l i) s).bind fun s' => self (i + 1, s') else some (i, s)) {l : List EntV} (hl : l.length ≤ 1000000) :
    ∀ (k : Nat) (i : Int) (s : σ), 0 ≤ i → i ≤ (l.length : Int) → (l.length : Int) - i < (k : Int) → lpF (F l) k (i, s) = (runF step (l.drop i.toNat) s).bind fun s' => some ((l.length : Int), s')
  | 0, i, s, h0, h1, hk => by omega
  | k + 1, i, s, h0, h1, hk => by
    show F l (lpF (F l) k) (i, s) = _
    rw [hF l _ i s hl h0 h1]
    by_cases hlt : i < (l.length : Int)
    · have hd : l.drop i.toNat = atK5 l i :: l.drop (i + 1).toNat := drop_cons (α := EntV) (dfR 5 : TR 5) ⟨h0, hlt⟩
      rw [if_pos hlt, hd]
      show _ = ((step (atK5 l i) s).bind fun s' => runF step (l.drop (i + 1).toNat) s').bind _
      rw [Option.bind_assoc]
      congr 1
      funext s'
      exact run_lp hF hl k (i + 1) s' (by omega) (by omega) (by omega)
    · rw [if_neg hlt, List.drop_eq_nil_of_le (by omega)]
      have : i = (l.length : Int) := by omega
      rw [this]
      rfl
/-- Entry by entry, until something holds. -/
theorem play_lp {D : σ → Bool} {I : Nat → σ → Prop} (hF : ∀ l self i s, l.length ≤ 1000000 → 0 ≤ i → i ≤ (l.length : Int) → (∃ K, K ≤ 1000000 ∧ I K s) → F l self (i, s) = if i < (l.length : Int) then (if D s = true then some (i, s) else (step (atK5 l i) s).bind fun s' => self (i + 1, s')) else some (i, s))
    (hI : ∀ K x s, 1 ≤ K → K ≤ 1000000 → I K s → Good (step x s) (I (K + 3))) {l : List EntV} (hl : l.length ≤ 100000) :
    ∀ (k : Nat) (i : Int) (s : σ), 0 ≤ i → i ≤ (l.length : Int) → (l.length : Int) - i < (k : Int) → I (1 + 3 * i.toNat) s → ∃ n s', lpF (F l) k (i, s) = some (n, s') ∧ i ≤ n ∧ n ≤ (l.length : Int) ∧ runF step ((l.drop i.toNat).take (n - i).toNat) s = some s' ∧ I (1 + 3 * n.toNat) s' ∧ (n = (l.length : Int) ∨ D s' = true)
  | 0, i, s, h0, h1, hk, _ => by omega
  | k + 1, i, s, h0, h1, hk, hi => by
    show ∃ n s', F l (lpF (F l) k) (i, s) = some (n, s') ∧ _
    rw [hF l _ i s (by omega) h0 h1 ⟨_, by omega, hi⟩]
    by_cases hlt : i < (l.length : Int)
    · rw [if_pos hlt]
      by_cases hd : D s = true
      · rw [if_pos hd]
        refine ⟨i, s, rfl, Int.le_refl _, h1, ?_, hi, .inr hd⟩
        rw [Int.sub_self]
        rfl
      · rw [if_neg hd]
        obtain ⟨s1, e1, hi1⟩ := hI _ (atK5 l i) s (by omega) (by omega) hi
        have e2 : 1 + 3 * i.toNat + 3 = 1 + 3 * (i + 1).toNat := by omega
        rw [e2] at hi1
        obtain ⟨n, s', q1, q2, q3, q4, q5, q6⟩ := play_lp hF hI hl k (i + 1) s1 (by omega) (by omega) (by omega) hi1
        rw [e1]
        refine ⟨n, s', q1, by omega, q3, ?_, q5, q6⟩
        have hdc : l.drop i.toNat = atK5 l i :: l.drop (i + 1).toNat := drop_cons (α := EntV) (dfR 5 : TR 5) ⟨h0, hlt⟩
        have e3 : (n - i).toNat = (n - (i + 1)).toNat + 1 := by omega
        rw [hdc, e3, List.take_succ_cons]
        show (step (atK5 l i) s).bind (fun s' => runF step ((l.drop (i + 1).toNat).take (n - (i + 1)).toNat) s') = some s'
        rw [e1]
        exact q4
    · rw [if_neg hlt]
      have : i = (l.length : Int) := by omega
      refine ⟨i, s, rfl, Int.le_refl _, h1, ?_, hi, .inl this⟩
      rw [Int.sub_self]
      rfl
end
/-! ### Done -/
theorem cstat (c : ClientV MV) : ∃ s, clientClientStatus c = some ((s, ()), (c, ())) := by
  unfold clientClientStatus clientClientOver
  rw [bnd]
  simp only
  by_cases h1 : decide (((c.subs.length : Nat) : Int) ≤ c.i) = true
  · rw [if_pos h1]; exact ⟨_, rfl⟩
  · rw [if_neg h1]
    by_cases h2 : c.line = 1
    · rw [if_pos h2]; exact ⟨_, rfl⟩
    · rw [if_neg h2]; exact ⟨_, rfl⟩
theorem wstat (w : WorkerV MV) : ∃ s, workerWorkerStatus w = some ((s, ()), (w, ())) := by
  unfold workerWorkerStatus parkAsleep
  by_cases h1 : w.line = 0
  · rw [if_pos h1]; exact ⟨_, rfl⟩
  · rw [if_neg h1]
    by_cases h2 : w.line = 7
    · rw [if_pos h2]; exact ⟨_, rfl⟩
    · rw [if_neg h2]
      by_cases h3 : w.line = 8
      · rw [if_pos h3, bnd]
        simp only
        by_cases h4 : asl w.inside = true
        · rw [if_pos h4]; exact ⟨_, rfl⟩
        · rw [if_neg h4]; exact ⟨_, rfl⟩
      · rw [if_neg h3]; exact ⟨_, rfl⟩
noncomputable def doneS {α : Type} (l : LayV) (K : Bool → MemV → Option α) (self : Int × MemV × Unit → Option ((Int × MemV × Unit) ⊕ α)) (x : Int × MemV × Unit) : Option ((Int × MemV × Unit) ⊕ α) :=
  (pState l x.1).bind fun r =>
  if r.1.1 < 0 then Option.map Sum.inr (K false x.2.1)
  else if ((x.2.1.cells.length : Nat) : Int) ≤ r.1.1 then Option.map Sum.inr (K false x.2.1)
  else if 0 ≤ r.1.1 ∧ r.1.1 < ((x.2.1.cells.length : Nat) : Int) then
   if (atK0 x.2.1.cells r.1.1) ≠ 4 then Option.map Sum.inr (K false x.2.1)
   else self (wi (x.1 + 1), x.2.1, ())
  else none
theorem doneB_unf {α : Type} (l : LayV) (tasks : Int) (K : Bool → MemV → Option α) (self : Int × MemV × Unit → Option ((Int × MemV × Unit) ⊕ α)) (x : Int × MemV × Unit) :
    doneB l tasks K self x = if x.1 < tasks then (if (0 : Int) < 0 then (if wu x.1 < 0 then doneS l K self x else some (Sum.inl (x.1, x.2.1, ()))) else if ((x.2.1.cells.length : Nat) : Int) ≤ 0 then (if wu x.1 < 0 then doneS l K self x else some (Sum.inl (x.1, x.2.1, ())))
      else if 0 ≤ (0 : Int) ∧ (0 : Int) < ((x.2.1.cells.length : Nat) : Int) then (if wu x.1 < atK0 x.2.1.cells 0 then doneS l K self x else some (Sum.inl (x.1, x.2.1, ()))) else none) else some (Sum.inl (x.1, x.2.1, ())) := by kernel_rfl
theorem doneS_cases (l : LayV) (m : MemV) (t : Int) : (∀ {α : Type} (K : Bool → MemV → Option α) self, doneS l K self (t, m, ()) = self (wi (t + 1), m, ())) ∨ (∀ {α : Type} (K : Bool → MemV → Option α) self, doneS l K self (t, m, ()) = Option.map Sum.inr (K false m)) := by
  by_cases h1 : stateP l t < 0
  · refine .inr fun K self => ?_
    unfold doneS; rw [pState_eq, bnd, if_pos h1]
  · by_cases h2 : ((m.cells.length : Nat) : Int) ≤ stateP l t
    · refine .inr fun K self => ?_
      unfold doneS; rw [pState_eq, bnd, if_neg h1, if_pos h2]
    · have h3 : 0 ≤ stateP l t ∧ stateP l t < ((m.cells.length : Nat) : Int) := by omega
      by_cases h4 : (atK0 m.cells (stateP l t)) ≠ 4
      · refine .inr fun K self => ?_
        unfold doneS; rw [pState_eq, bnd, if_neg h1, if_neg h2, if_pos h3, if_pos h4]
      · refine .inl fun K self => ?_
        unfold doneS; rw [pState_eq, bnd, if_neg h1, if_neg h2, if_pos h3, if_neg h4]
theorem doneB_cases (l : LayV) (tasks : Int) (m : MemV) (t : Int) : (t < tasks ∧ ∀ {α : Type} (K : Bool → MemV → Option α) self, doneB l tasks K self (t, m, ()) = self (wi (t + 1), m, ())) ∨ (∀ {α : Type} (K : Bool → MemV → Option α) self, doneB l tasks K self (t, m, ()) = Option.map Sum.inr (K false m)) ∨ (∀ {α : Type} (K : Bool → MemV → Option α) self, doneB l tasks K self (t, m, ()) = some (Sum.inl (t, m, ()))) := by
  by_cases h1 : t < tasks
  · by_cases h2 : ((m.cells.length : Nat) : Int) ≤ 0
    · by_cases h3 : wu t < 0
      · rcases doneS_cases l m t with h | h
        · exact .inl ⟨h1, fun K self => by rw [doneB_unf, if_pos h1, if_neg (by decide), if_pos h2, if_pos h3]; exact h K self⟩
        · exact .inr (.inl fun K self => by rw [doneB_unf, if_pos h1, if_neg (by decide), if_pos h2, if_pos h3]; exact h K self)
      · exact .inr (.inr fun K self => by rw [doneB_unf, if_pos h1, if_neg (by decide), if_pos h2, if_neg h3])
    · have h4 : 0 ≤ (0 : Int) ∧ (0 : Int) < ((m.cells.length : Nat) : Int) := by omega
      by_cases h3 : wu t < atK0 m.cells 0
      · rcases doneS_cases l m t with h | h
        · exact .inl ⟨h1, fun K self => by rw [doneB_unf, if_pos h1, if_neg (by decide), if_neg h2, if_pos h4, if_pos h3]; exact h K self⟩
        · exact .inr (.inl fun K self => by rw [doneB_unf, if_pos h1, if_neg (by decide), if_neg h2, if_pos h4, if_pos h3]; exact h K self)
      · exact .inr (.inr fun K self => by rw [doneB_unf, if_pos h1, if_neg (by decide), if_neg h2, if_pos h4, if_neg h3])
  · exact .inr (.inr fun K self => by rw [doneB_unf, if_neg h1])
theorem doneL_at (l : LayV) (tasks : Int) (ht : tasks ≤ 1000000) (m : MemV) : ∀ (n : Nat) (t : Int), 0 ≤ t → (tasks - t).toNat = n → ∃ b : Bool, ∀ {α : Type} (K : Bool → MemV → Option α) (k : Nat), n < k → ((lpF (doneB l tasks K) k (t, m, ())).bind fun z => match z with
    | .inr o => some o
    | .inl z => K true z.2.1) = K b m := by
  intro n
  induction n with
  | zero =>
    intro t h0 hn
    rcases doneB_cases l tasks m t with ⟨h1, _⟩ | h | h
    · omega
    · refine ⟨false, fun K k hk => ?_⟩
      obtain ⟨k, rfl⟩ : ∃ j, k = j + 1 := ⟨k - 1, by omega⟩
      show ((doneB l tasks K (lpF (doneB l tasks K) k) (t, m, ())).bind _) = _
      rw [h]
      cases K false m <;> rfl
    · refine ⟨true, fun K k hk => ?_⟩
      obtain ⟨k, rfl⟩ : ∃ j, k = j + 1 := ⟨k - 1, by omega⟩
      show ((doneB l tasks K (lpF (doneB l tasks K) k) (t, m, ())).bind _) = _
      rw [h]
      rfl
  | succ n ih =>
    intro t h0 hn
    rcases doneB_cases l tasks m t with ⟨h1, h⟩ | h | h
    · obtain ⟨b, hb⟩ := ih (t + 1) (by omega) (by omega)
      refine ⟨b, fun K k hk => ?_⟩
      obtain ⟨k, rfl⟩ : ∃ j, k = j + 1 := ⟨k - 1, by omega⟩
      show ((doneB l tasks K (lpF (doneB l tasks K) k) (t, m, ())).bind _) = _
      rw [h, wi_id (rg_lit (by omega))]
      exact hb K k (by omega)
    · refine ⟨false, fun K k hk => ?_⟩
      obtain ⟨k, rfl⟩ : ∃ j, k = j + 1 := ⟨k - 1, by omega⟩
      show ((doneB l tasks K (lpF (doneB l tasks K) k) (t, m, ())).bind _) = _
      rw [h]
      cases K false m <;> rfl
    · refine ⟨true, fun K k hk => ?_⟩
      obtain ⟨k, rfl⟩ : ∃ j, k = j + 1 := ⟨k - 1, by omega⟩
      show ((doneB l tasks K (lpF (doneB l tasks K) k) (t, m, ())).bind _) = _
      rw [h]
      rfl
theorem doneL_ex (l : LayV) (tasks : Int) (ht : tasks ≤ 1000000) (m : MemV) : ∃ b : Bool, ∀ {α : Type} (K : Bool → MemV → Option α), doneL l tasks m K = K b m := by
  obtain ⟨b, hb⟩ := doneL_at l tasks ht m _ 0 (Int.le_refl 0) rfl
  exact ⟨b, fun K => hb K _ (by omega)⟩
/-! ### The script -/
theorem r4_len {b : List Int} (hb : b.length ≤ 1000000) : Good (r4decode b) fun o => o.1.1.length ≤ 65536 := by
  unfold r4decode
  refine Good.bind (P := fun z => z.1.length ≤ 65536) (lp_good (fun x => 0 ≤ x.2.1 ∧ x.2.1 ≤ (b.length : Int) + 2 ∧ x.1.length ≤ 65536) (fun x => ((b.length : Int) + 2 - x.2.1).toNat) (fun self x ⟨q0, q1, q2⟩ ih => ?_) _ _ ⟨Int.le_refl 0, by show (0 : Int) ≤ (b.length : Int) + 2; omega, Nat.zero_le _⟩ (by show ((b.length : Int) + 2 - 0).toNat < _; omega)) fun z hz => .some_ hz
  have e1 : wi (x.2.1 + 1) = x.2.1 + 1 := wi_id (rg_lit (by omega))
  have e2 : wi (x.2.1 + 2) = x.2.1 + 2 := wi_id (rg_lit (by omega))
  rw [e1, e2]
  refine Good.ite (fun h1 => Good.ite (fun h2 => .guard (by omega) fun _ => .guard (by omega) fun _ => .guard rfl fun _ => .guard rfl fun _ => ?_) fun _ => .some_ q2) fun _ => .some_ q2
  have nx : ∀ u : EntV, Good (self (x.1 ++ [u], x.2.1 + 2, ())) fun z => z.1.length ≤ 65536 := fun u => ih _ ⟨by show 0 ≤ x.2.1 + 2; omega, by show x.2.1 + 2 ≤ (b.length : Int) + 2; omega, by simp; omega⟩ (by show ((b.length : Int) + 2 - (x.2.1 + 2)).toNat < ((b.length : Int) + 2 - x.2.1).toNat; omega)
  refine Good.ite (fun _ => .guard (by simp; omega) fun _ => nx _) fun _ => Good.ite (fun _ => .guard (by simp; omega) fun _ => nx _) fun _ => .guard (by simp; omega) fun _ => nx _
theorem script_len {b : List Int} {n : Int} (hb : b.length ≤ 1000000) (hn : 0 ≤ n) : Good (kscript b n) fun o => o.1.1.length ≤ n.toNat := by
  unfold kscript
  refine (r4_len hb).bind fun r hr => Good.ite (fun h => .guard (by omega) fun _ => .some_ (by show (r.1.1.take n.toNat).length ≤ n.toNat; simp; omega)) fun h => .some_ (by show r.1.1.length ≤ n.toNat; omega)
theorem draw_good {x k : Int} (hk : 1 ≤ k ∧ k ≤ 1000000) : Good (workstealref02Draw x k) fun o => 0 ≤ o.1.1 ∧ o.1.1 < k := by
  have h1 : Int.tmod x k < k ∧ -k < Int.tmod x k := by
    constructor
    · exact Int.tmod_lt_of_pos _ (by omega)
    · have h2 : Int.tmod (-x) k < k := Int.tmod_lt_of_pos _ (by omega)
      rw [Int.neg_tmod] at h2
      omega
  unfold workstealref02Draw
  rw [if_neg (by omega), if_pos (by omega)]
  refine Good.ite (fun hl => ?_) fun hl => ?_
  · rw [if_pos (by omega), wi_id (rg_lit (by omega))]
    exact .some_ ⟨by show 0 ≤ Int.tmod x k + k; omega, by show Int.tmod x k + k < k; omega⟩
  · rw [if_pos (by omega)]
    exact .some_ ⟨by show 0 ≤ Int.tmod x k; omega, h1.1⟩
theorem number_good {l : List Int} {i k : Int} (hl : l.length ≤ 1000000) (hi : 0 ≤ i ∧ i ≤ 1000000) (hk : 1 ≤ k ∧ k ≤ 1000000) : Good (workstealkeepNumber l i k) fun o => 0 ≤ o.1.1 ∧ o.1.1 < k := by
  unfold workstealkeepNumber
  refine Good.ite (fun h => .some_ ⟨Int.le_refl 0, by show (0 : Int) < k; omega⟩) fun h => ?_
  have h0 : (0 : Int) < ((l.length : Nat) : Int) := by omega
  have h1 := tmod_lt (a := i) (b := ((l.length : Nat) : Int)) (by omega) hi.1
  have h2 : 0 ≤ Int.tdiv i ((l.length : Nat) : Int) := Int.tdiv_nonneg hi.1 (by omega)
  have h3 : Int.tdiv i ((l.length : Nat) : Int) ≤ 1000000 := Int.le_trans (Int.tdiv_le_self _ hi.1) hi.2
  have h4 := tmod_lt (a := Int.tdiv i ((l.length : Nat) : Int)) (b := 7) (by decide) h2
  rw [wi_id (x := Int.tdiv i ((l.length : Nat) : Int)) (rg_lit (by omega)), wi_id (x := 1 + Int.tmod (Int.tdiv i ((l.length : Nat) : Int)) 7) (rg_lit (by omega))]
  refine .guard (by omega) fun _ => .guard h1 fun _ => .guard (by omega) fun _ => .guard (by omega) fun _ => ?_
  exact (draw_good hk).bind fun r hr => .some_ hr
theorem insert_len {l : List EntV} {x : EntV} {i : Int} (hl : l.length ≤ 1000000) (hi : 0 ≤ i ∧ i ≤ (l.length : Int)) : Good (workstealkeepInsert l x i) fun o => o.1.1.length = l.length + 1 := by
  have ht : (l.take i.toNat).length = i.toNat := by rw [List.length_take]; omega
  have hd : (l.drop i.toNat).length = l.length - i.toNat := by rw [List.length_drop]
  unfold workstealkeepInsert
  refine .guard hi fun _ => .guard (by rw [ht]; show ((0 + i.toNat : Nat) : Int) < _; omega) fun _ => .guard (by simp only [List.nil_append, ht, List.length_singleton]; omega) fun _ => .guard hi fun _ => .guard (by simp only [List.nil_append, List.length_append, ht, hd, List.length_singleton]; omega) fun _ => .some_ ?_
  show ((([] ++ l.take i.toNat) ++ [x]) ++ l.drop i.toNat).length = _
  simp only [List.nil_append, List.length_append, ht, hd, List.length_singleton]
  omega
theorem round_len {l : List Int} {a k : Int} (hl : l.length ≤ 1000000) (ha : 0 ≤ a ∧ a ≤ 10000) (hk : 1 ≤ k ∧ k ≤ 100) : Good (workstealkeepRound l a k) fun o => o.1.1.length ≤ 200 := by
  unfold workstealkeepRound
  refine Good.bind (P := fun z => (z.1.length : Int) = k) (lp_good (fun x => 0 ≤ x.2.1 ∧ x.2.1 ≤ k ∧ (x.1.length : Int) = x.2.1) (fun x => (k - x.2.1).toNat) (fun self x ⟨q0, q1, q2⟩ ih => ?istep) _ _ ⟨Int.le_refl 0, by show (0 : Int) ≤ k; omega, rfl⟩ (by show (k - 0).toNat < _; omega)) fun z hz => ?icont
  case istep =>
    have e1 : wi (x.2.1 + 1) = x.2.1 + 1 := wi_id (rg_lit (by omega))
    have e2 : wi (a + x.2.1) = a + x.2.1 := wi_id (rg_lit (by omega))
    refine Good.ite (fun hlt => ?_) fun hge => .some_ (by show (x.1.length : Int) = k; omega)
    rw [e1, e2]
    show Good ((workstealkeepNumber l (a + x.2.1) (x.2.1 + 1)).bind _) _
    refine (number_good hl (by omega) (by omega)).bind fun r hr => ?_
    refine (insert_len (by omega) ⟨hr.1, by omega⟩).bind fun s hs => ih _ ⟨by show 0 ≤ x.2.1 + 1; omega, by show x.2.1 + 1 ≤ k; omega, by show (s.1.1.length : Int) = x.2.1 + 1; omega⟩ (by show (k - (x.2.1 + 1)).toNat < (k - x.2.1).toNat; omega)
  case icont =>
    have e3 : wi (a + k) = a + k := wi_id (rg_lit (by omega))
    have e4 : wi (k + 1) = k + 1 := wi_id (rg_lit (by omega))
    have e5 : wi (a + k + 1) = a + k + 1 := wi_id (rg_lit (by omega))
    rw [e3, e4]
    refine (number_good hl (by omega) (by omega)).bind fun r7 h7 => ?_
    refine (insert_len (by omega) ⟨h7.1, by omega⟩).bind fun r8 h8 => ?_
    rw [e5]
    refine (number_good (k := 3) hl (by omega) (by decide)).bind fun r9 h9 => ?_
    refine Good.bind (P := fun z => z.1.length ≤ 200) (lp_good (fun x => 0 ≤ x.2.1 ∧ x.2.1 ≤ 2 ∧ (x.1.length : Int) + x.2.1 ≤ k + 3) (fun x => x.2.1.toNat) (fun self x ⟨q0, q1, q2⟩ ih => ?_) _ _ ⟨h9.1, by show r9.1.1 ≤ 2; omega, by show (r8.1.1.length : Int) + r9.1.1 ≤ k + 3; omega⟩ (by show r9.1.1.toNat < _; omega)) fun z hz => .some_ hz
    have e6 : wi (a + k + x.2.1) = a + k + x.2.1 := wi_id (rg_lit (by omega))
    have e7 : wi (a + x.2.1) = a + x.2.1 := wi_id (rg_lit (by omega))
    have e8 : wi (x.2.1 - 1) = x.2.1 - 1 := wi_id (rg_lit (by omega))
    have e9 : wi (((x.1.length : Nat) : Int) + 1) = ((x.1.length : Nat) : Int) + 1 := wi_id (rg_lit (by omega))
    refine Good.ite (fun hlt => ?_) fun _ => .some_ (by show x.1.length ≤ 200; omega)
    rw [e6, e7, e8, e9]
    refine (number_good hl (by omega) (by omega)).bind fun r13 h13 => ?_
    show Good ((workstealkeepNumber l (a + x.2.1) (((x.1.length : Nat) : Int) + 1)).bind _) _
    refine (number_good hl (by omega) (by omega)).bind fun r15 h15 => ?_
    refine (insert_len (by omega) ⟨h15.1, by omega⟩).bind fun r16 h16 => ih _ ⟨by show 0 ≤ x.2.1 - 1; omega, by show x.2.1 - 1 ≤ 2; omega, by show (r16.1.1.length : Int) + (x.2.1 - 1) ≤ k + 3; omega⟩ (by show (x.2.1 - 1).toNat < x.2.1.toNat; omega)
theorem steady_len {c : Cfg} {l : List Int} (hl : l.length ≤ 1000000) (hw : 1 ≤ c.workers ∧ c.workers ≤ 4) : Good (worksteallaw31Steady c [] l 120) fun o => o.1.1.length ≤ 24200 := by
  unfold worksteallaw31Steady
  refine (script_len (b := []) (n := 200) (Nat.zero_le _) (by decide)).bind fun r1 h1 => ?_
  have h1 : r1.1.1.length ≤ 200 := h1
  refine Good.bind (P := fun z => z.1.length ≤ 24200) (lp_good (fun x => 0 ≤ x.2.1 ∧ x.2.1 ≤ 120 ∧ (x.1.length : Int) ≤ 200 + 200 * x.2.1) (fun x => (120 - x.2.1).toNat) (fun self x ⟨q0, q1, q2⟩ ih => ?_) _ _ ⟨Int.le_refl 0, by show (0 : Int) ≤ 120; omega, by show (r1.1.1.length : Int) ≤ 200 + 200 * 0; omega⟩ (by show (120 - 0 : Int).toNat < _; omega)) fun z hz => .some_ hz
  have e1 : wi (5 * x.2.1) = 5 * x.2.1 := wi_id (rg_lit (by omega))
  have e2 : wi (c.workers + 1) = c.workers + 1 := wi_id (rg_lit (by omega))
  have e3 : wi (x.2.1 + 1) = x.2.1 + 1 := wi_id (rg_lit (by omega))
  refine Good.ite (fun hlt => ?_) fun _ => .some_ (by show x.1.length ≤ 24200; omega)
  rw [e1, e2, e3]
  refine (round_len hl (by omega) (by omega)).bind fun r5 h5 => ?_
  refine .guard (by omega) fun _ => ih _ ⟨by show 0 ≤ x.2.1 + 1; omega, by show x.2.1 + 1 ≤ 120; omega, ?_⟩ (by show (120 - (x.2.1 + 1)).toNat < (120 - x.2.1).toNat; omega)
  show ((x.1 ++ r5.1.1).length : Int) ≤ 200 + 200 * (x.2.1 + 1)
  rw [List.length_append]
  omega
end
section
open Go Go.RowKit
set_option maxRecDepth 100000
variable [Tb]
noncomputable abbrev boundPlay1_k : Con SR1 := ⟨54, [.val 13, .sh (.ro 5)], [.sh sI_, .sh sI_, .sh .b], fun x => boundPlay1 x.1 x.2.1⟩
noncomputable def boundPlay1_tb : List (Nat × Func) := [(68, Tryz.f68), (114, Tryz.f114), (56, Tryz.f56), (44, Tryz.f44), (105, Tryz.f105), (146, Tryz.f146), (103, Tryz.f103), (29, Tryz.f29)]
theorem boundPlay1_ok : CO Tryz.prog boundPlay1_k := co_fn mixed Tryz.func54 [machineNew_k, clientNew_k, workerNew_k, clientClientStatus_k, memoryMemoryCount_k, scriptMachine_k, clientClientStep_k, workerWorkerStep_k, clockClockTick_k, clockClockSet_k, memoryMemoryLast_k, workerWorkerStatus_k, pNext_k, pState_k, configMachines_k, roundsK_k] ⟨machineNew_ok, clientNew_ok, workerNew_ok, clientClientStatus_ok, memoryMemoryCount_ok, scriptMachine_ok, clientClientStep_ok, workerWorkerStep_ok, clockClockTick_ok, clockClockSet_ok, memoryMemoryLast_ok, workerWorkerStatus_ok, pNext_ok, pState_ok, configMachines_ok, roundsK_ok, trivial⟩ boundPlay1_tb ⟨Tryz.func68, Tryz.func114, Tryz.func56, Tryz.func44, Tryz.func105, Tryz.func146, Tryz.func103, Tryz.func29, trivial⟩ (fun f => (get [(68, [(6, .spl 22 [1] 2)]), (114, [(2, .unroll 2)]), (56, [(6, .loopR [.rg 6 sI_, .ob 93 9] 18446744073709551616 0), (6, .loopR [.rg 6 sI_, .ob 107 9] 18446744073709551616 0)]), (44, [(9, .cut [.ob 14 27, .ob 28 31, .ob 16 30, .cx 17 [.inr (.ptr 14 0), .inr (.sl 30), .inr (.ptr 16 0), .inr (.sl 56), .inl sI_, .inl (.row 1), .inl sI_, .inl sI_, .inl sU_, .inl sU_]] [9, 10, 11, 60, 61]), (9, .cut [.ob 14 27, .ob 28 31, .ob 16 30, .cx 17 [.inr (.ptr 14 0), .inr (.sl 30), .inr (.ptr 16 0), .inr (.sl 56), .inl sI_, .inl (.row 1), .inl sI_, .inl sI_, .inl sU_, .inl sU_]] [9, 10, 11, 61, 62]), (9, .cut [.ob 14 27, .ob 28 31, .ob 16 30, .cx 17 [.inr (.ptr 14 0), .inr (.sl 30), .inr (.ptr 16 0), .inr (.sl 56), .inl sI_, .inl (.row 1), .inl sI_, .inl sI_, .inl sU_, .inl sU_]] [9, 10, 11, 133, 137, 138]), (9, .cut [.ob 14 27, .ob 28 31, .ob 16 30, .cx 17 [.inr (.ptr 14 0), .inr (.sl 30), .inr (.ptr 16 0), .inr (.sl 56), .inl sI_, .inl (.row 1), .inl sI_, .inl sI_, .inl sU_, .inl sU_]] [9, 10, 11, 133, 138, 139]), (9, .cut [.ob 14 27, .ob 28 31, .ob 16 30, .cx 17 [.inr (.ptr 14 0), .inr (.sl 30), .inr (.ptr 16 0), .inr (.sl 56), .inl sI_, .inl (.row 1), .inl sI_, .inl sI_, .inl sU_, .inl sU_]] [9, 10, 11, 133, 138, 139, 140]), (9, .cut [.ob 14 27, .ob 28 31, .ob 16 30, .cx 17 [.inr (.ptr 14 0), .inr (.sl 30), .inr (.ptr 16 0), .inr (.sl 56), .inl sI_, .inl (.row 1), .inl sI_, .inl sI_, .inl sU_, .inl sU_]] [9, 10, 11, 133, 137, 139, 140]), (9, .cut [.ob 14 27, .ob 28 31, .ob 16 30, .cx 17 [.inr (.ptr 14 0), .inr (.sl 30), .inr (.ptr 16 0), .inr (.sl 56), .inl sI_, .inl (.row 1), .inl sI_, .inl sI_, .inl sU_, .inl sU_]] [9, 10, 11, 133, 137, 139, 140, 141]), (12, .loop [.ob 14 27, .cx 17 [.inr (.ptr 14 0), .inr (.sl 30), .inr (.ptr 16 0), .inr (.sl 56), .inl sI_, .inl (.row 1), .inl sI_, .inl sI_, .inl sU_, .inl sU_]] 18446744073709551616 1)]), (146, [(2, .unroll 2)])] f).getD []) [(4, .loop [.rg 4 sI_, .ob 14 27, .ob 28 31, .ob 16 30, .cx 17 [.inr (.ptr 14 0), .inr (.sl 30), .inr (.ptr 16 0), .inr (.sl 56), .inl sI_, .inl (.row 1), .inl sI_, .inl sI_, .inl sU_, .inl sU_]] 18446744073709551616 0)] fun x => by kernel_rfl
noncomputable def worksteallaw31Awake  : Option ((Bool × Unit) × (Unit)) :=
 (kconfig ([])).bind fun r1 =>
 (boundPlay1 r1.1.1 ([])).bind fun r2 =>
 (boundBound 1 1 1 1 1 0 0).bind fun r3 =>
 if r3.1.1 = 14691 then
  if r2.1.1 = 0 then
   if r2.1.2.1 = 0 then
    some ((r2.1.2.2.1, ()), (()))
   else
   some ((false, ()), (()))
  else
  some ((false, ()), (()))
 else
 some ((false, ()), (()))
noncomputable abbrev worksteallaw31Awake_k : Con SR1 := ⟨55, [], [.sh .b], fun x => worksteallaw31Awake ⟩
theorem worksteallaw31Awake_ok : CO Tryz.prog worksteallaw31Awake_k := co_fn mixed Tryz.func55 [kconfig_k, boundPlay1_k, boundBound_k] ⟨kconfig_ok, boundPlay1_ok, boundBound_ok, trivial⟩ [] trivial (fun _ => []) [] fun x => by kernel_rfl
noncomputable def worksteallaw31BoundRounds1 (y0 : List Int) (y1 : List Int) : Option ((Bool × Unit) × (Unit)) :=
 (kshort y0 ([y1])).bind fun r1 =>
 if (!r1.1.1) = true then some ((true, ()), (()))
 else
 (kconfig y0).bind fun r2 =>
 (worksteallaw31Steady r2.1.1 ([]) y1 120).bind fun r3 =>
 (boundPlay1 r2.1.1 r3.1.1).bind fun r4 =>
 (worksteallaw31Awake).bind fun r5 =>
 if (!r5.1.1) = true then some ((false, ()), (()))
 else
 if r4.1.1 < 0 then some ((false, ()), (()))
 else
 if ((r3.1.1.length : Nat) : Int) < r4.1.1 then some ((false, ()), (()))
 else
 if 0 ≤ r4.1.1 ∧ r4.1.1 ≤ ((r3.1.1.length : Nat) : Int) then
   (machineNew r2.1.1).bind fun r6 =>
   if r6.1.2.1 ≠ 0 then
    if r6.1.2.1 ≠ 0 then some ((false, ()), (()))
    else some ((false, ()), (()))
   else
   (clientNew r2.1.1).bind fun r7 =>
   if r2.1.1.workers = ((1 : Nat) : Int) then
    (workerNew 0).bind fun w0 =>
    (lpF (travBody1 (r3.1.1.take (r4.1.1 : Int).toNat)) 18446744073709551616 (0, r6.1.1, w0.1.1, r7.1.1, (0, [], 0, 0, 0, 0, ()), ())).bind fun z =>
    doneK1 z.2.1 z.2.2.1 z.2.2.2.1 fun b _ _ _ => bndEnd b r2.1.1 r3.1.1 r4.1.1 r4.1.2.1 r4.1.2.2.1
   else none
 else none
noncomputable abbrev worksteallaw31BoundRounds1_k : Con SR1 := ⟨10, [.sh (.ro 17), .sh (.ro 1)], [.sh .b], fun x => worksteallaw31BoundRounds1 x.1 x.2.1⟩
noncomputable def worksteallaw31BoundRounds1_tb : List (Nat × Func) := [(21, Tryz.f21), (68, Tryz.f68), (114, Tryz.f114), (47, Tryz.f47), (44, Tryz.f44), (56, Tryz.f56), (105, Tryz.f105), (146, Tryz.f146), (103, Tryz.f103), (29, Tryz.f29)]
theorem worksteallaw31BoundRounds1_ok : CO Tryz.prog worksteallaw31BoundRounds1_k := co_fn mixed Tryz.func10 [kshort_k, kconfig_k, worksteallaw31Steady_k, boundPlay1_k, worksteallaw31Awake_k, machineNew_k, clientNew_k, workerNew_k, memoryMemoryCount_k, scriptMachine_k, clientClientStep_k, workerWorkerStep_k, clockClockTick_k, clockClockSet_k, memoryMemoryLast_k, clientClientStatus_k, roundsK_k, workerWorkerStatus_k, pNext_k, pState_k] ⟨kshort_ok, kconfig_ok, worksteallaw31Steady_ok, boundPlay1_ok, worksteallaw31Awake_ok, machineNew_ok, clientNew_ok, workerNew_ok, memoryMemoryCount_ok, scriptMachine_ok, clientClientStep_ok, workerWorkerStep_ok, clockClockTick_ok, clockClockSet_ok, memoryMemoryLast_ok, clientClientStatus_ok, roundsK_ok, workerWorkerStatus_ok, pNext_ok, pState_ok, trivial⟩ worksteallaw31BoundRounds1_tb ⟨Tryz.func21, Tryz.func68, Tryz.func114, Tryz.func47, Tryz.func44, Tryz.func56, Tryz.func105, Tryz.func146, Tryz.func103, Tryz.func29, trivial⟩ (fun f => (get [(68, [(6, .spl 22 [1] 2)]), (114, [(2, .unroll 2)]), (47, [(1, .loop [.rg 8 sI_, .ob 35 27, .ob 49 31, .ob 37 30, .cx 38 [.inr (.ptr 35 0), .inr (.sl 51), .inr (.ptr 37 0), .inr (.sl 77), .inl sI_, .inl (.row 1), .inl sI_, .inl sI_, .inl sU_, .inl sU_]] 18446744073709551616 0)]), (44, [(9, .cut [.ob 35 27, .ob 49 31, .ob 37 30, .cx 38 [.inr (.ptr 35 0), .inr (.sl 51), .inr (.ptr 37 0), .inr (.sl 77), .inl sI_, .inl (.row 1), .inl sI_, .inl sI_, .inl sU_, .inl sU_]] [0, 1, 2, 13, 14, 16, 21, 80, 81, 82]), (12, .loop [.ob 35 27, .cx 38 [.inr (.ptr 35 0), .inr (.sl 51), .inr (.ptr 37 0), .inr (.sl 77), .inl sI_, .inl (.row 1), .inl sI_, .inl sI_, .inl sU_, .inl sU_]] 18446744073709551616 1)]), (56, [(6, .loopR [.rg 6 sI_, .ob 114 9] 18446744073709551616 0)]), (146, [(2, .unroll 2)])] f).getD []) [] fun x => by kernel_rfl
end
section
open Go Go.RowKit
set_option maxRecDepth 100000
variable [Tb]
noncomputable abbrev boundPlay2_k : Con SR1 := ⟨54, [.val 13, .sh (.ro 5)], [.sh sI_, .sh sI_, .sh .b], fun x => boundPlay2 x.1 x.2.1⟩
noncomputable def boundPlay2_tb : List (Nat × Func) := [(68, Tryz.f68), (114, Tryz.f114), (56, Tryz.f56), (44, Tryz.f44), (105, Tryz.f105), (146, Tryz.f146), (103, Tryz.f103), (29, Tryz.f29)]
theorem boundPlay2_ok : CO Tryz.prog boundPlay2_k := co_fn mixed Tryz.func54 [machineNew_k, clientNew_k, workerNew_k, clientClientStatus_k, memoryMemoryCount_k, scriptMachine_k, clientClientStep_k, workerWorkerStep_k, clockClockTick_k, clockClockSet_k, memoryMemoryLast_k, workerWorkerStatus_k, pNext_k, pState_k, configMachines_k, roundsK_k] ⟨machineNew_ok, clientNew_ok, workerNew_ok, clientClientStatus_ok, memoryMemoryCount_ok, scriptMachine_ok, clientClientStep_ok, workerWorkerStep_ok, clockClockTick_ok, clockClockSet_ok, memoryMemoryLast_ok, workerWorkerStatus_ok, pNext_ok, pState_ok, configMachines_ok, roundsK_ok, trivial⟩ boundPlay2_tb ⟨Tryz.func68, Tryz.func114, Tryz.func56, Tryz.func44, Tryz.func105, Tryz.func146, Tryz.func103, Tryz.func29, trivial⟩ (fun f => (get [(68, [(6, .spl 22 [2] 3)]), (114, [(2, .unroll 3)]), (56, [(6, .loopR [.rg 6 sI_, .ob 111 9] 18446744073709551616 0), (6, .loopR [.rg 6 sI_, .ob 125 9] 18446744073709551616 0)]), (44, [(9, .cut [.ob 14 27, .ob 28 31, .ob 42 31, .ob 16 30, .cx 17 [.inr (.ptr 14 0), .inr (.sl 44), .inr (.ptr 16 0), .inr (.sl 73), .inl sI_, .inl (.row 1), .inl sI_, .inl sI_, .inl sU_, .inl sU_]] [9, 10, 11, 77, 78]), (9, .cut [.ob 14 27, .ob 28 31, .ob 42 31, .ob 16 30, .cx 17 [.inr (.ptr 14 0), .inr (.sl 44), .inr (.ptr 16 0), .inr (.sl 73), .inl sI_, .inl (.row 1), .inl sI_, .inl sI_, .inl sU_, .inl sU_]] [9, 10, 11, 78, 79]), (9, .cut [.ob 14 27, .ob 28 31, .ob 42 31, .ob 16 30, .cx 17 [.inr (.ptr 14 0), .inr (.sl 44), .inr (.ptr 16 0), .inr (.sl 73), .inl sI_, .inl (.row 1), .inl sI_, .inl sI_, .inl sU_, .inl sU_]] [9, 10, 11, 79, 80]), (9, .cut [.ob 14 27, .ob 28 31, .ob 42 31, .ob 16 30, .cx 17 [.inr (.ptr 14 0), .inr (.sl 44), .inr (.ptr 16 0), .inr (.sl 73), .inl sI_, .inl (.row 1), .inl sI_, .inl sI_, .inl sU_, .inl sU_]] [9, 10, 11, 151, 155, 156]), (9, .cut [.ob 14 27, .ob 28 31, .ob 42 31, .ob 16 30, .cx 17 [.inr (.ptr 14 0), .inr (.sl 44), .inr (.ptr 16 0), .inr (.sl 73), .inl sI_, .inl (.row 1), .inl sI_, .inl sI_, .inl sU_, .inl sU_]] [9, 10, 11, 151, 156, 157]), (9, .cut [.ob 14 27, .ob 28 31, .ob 42 31, .ob 16 30, .cx 17 [.inr (.ptr 14 0), .inr (.sl 44), .inr (.ptr 16 0), .inr (.sl 73), .inl sI_, .inl (.row 1), .inl sI_, .inl sI_, .inl sU_, .inl sU_]] [9, 10, 11, 151, 156, 157, 158]), (9, .cut [.ob 14 27, .ob 28 31, .ob 42 31, .ob 16 30, .cx 17 [.inr (.ptr 14 0), .inr (.sl 44), .inr (.ptr 16 0), .inr (.sl 73), .inl sI_, .inl (.row 1), .inl sI_, .inl sI_, .inl sU_, .inl sU_]] [9, 10, 11, 151, 155, 157, 158]), (9, .cut [.ob 14 27, .ob 28 31, .ob 42 31, .ob 16 30, .cx 17 [.inr (.ptr 14 0), .inr (.sl 44), .inr (.ptr 16 0), .inr (.sl 73), .inl sI_, .inl (.row 1), .inl sI_, .inl sI_, .inl sU_, .inl sU_]] [9, 10, 11, 151, 155, 157, 158, 159]), (12, .loop [.ob 14 27, .cx 17 [.inr (.ptr 14 0), .inr (.sl 44), .inr (.ptr 16 0), .inr (.sl 73), .inl sI_, .inl (.row 1), .inl sI_, .inl sI_, .inl sU_, .inl sU_]] 18446744073709551616 1)]), (146, [(2, .unroll 3)])] f).getD []) [(4, .loop [.rg 4 sI_, .ob 14 27, .ob 28 31, .ob 42 31, .ob 16 30, .cx 17 [.inr (.ptr 14 0), .inr (.sl 44), .inr (.ptr 16 0), .inr (.sl 73), .inl sI_, .inl (.row 1), .inl sI_, .inl sI_, .inl sU_, .inl sU_]] 18446744073709551616 0)] fun x => by kernel_rfl
noncomputable def worksteallaw31BoundRounds2 (y0 : List Int) (y1 : List Int) : Option ((Bool × Unit) × (Unit)) :=
 (kshort y0 ([y1])).bind fun r1 =>
 if (!r1.1.1) = true then some ((true, ()), (()))
 else
 (kconfig y0).bind fun r2 =>
 (worksteallaw31Steady r2.1.1 ([]) y1 120).bind fun r3 =>
 (boundPlay2 r2.1.1 r3.1.1).bind fun r4 =>
 (worksteallaw31Awake).bind fun r5 =>
 if (!r5.1.1) = true then some ((false, ()), (()))
 else
 if r4.1.1 < 0 then some ((false, ()), (()))
 else
 if ((r3.1.1.length : Nat) : Int) < r4.1.1 then some ((false, ()), (()))
 else
 if 0 ≤ r4.1.1 ∧ r4.1.1 ≤ ((r3.1.1.length : Nat) : Int) then
   (machineNew r2.1.1).bind fun r6 =>
   if r6.1.2.1 ≠ 0 then
    if r6.1.2.1 ≠ 0 then some ((false, ()), (()))
    else some ((false, ()), (()))
   else
   (clientNew r2.1.1).bind fun r7 =>
   if r2.1.1.workers = ((2 : Nat) : Int) then
    (workerNew 0).bind fun w0 =>
    (workerNew 1).bind fun w1 =>
    (lpF (travBody2 (r3.1.1.take (r4.1.1 : Int).toNat)) 18446744073709551616 (0, r6.1.1, w0.1.1, w1.1.1, r7.1.1, (0, [], 0, 0, 0, 0, ()), ())).bind fun z =>
    doneK2 z.2.1 z.2.2.1 z.2.2.2.1 z.2.2.2.2.1 fun b _ _ _ _ => bndEnd b r2.1.1 r3.1.1 r4.1.1 r4.1.2.1 r4.1.2.2.1
   else none
 else none
noncomputable abbrev worksteallaw31BoundRounds2_k : Con SR1 := ⟨10, [.sh (.ro 17), .sh (.ro 1)], [.sh .b], fun x => worksteallaw31BoundRounds2 x.1 x.2.1⟩
noncomputable def worksteallaw31BoundRounds2_tb : List (Nat × Func) := [(21, Tryz.f21), (68, Tryz.f68), (114, Tryz.f114), (47, Tryz.f47), (44, Tryz.f44), (56, Tryz.f56), (105, Tryz.f105), (146, Tryz.f146), (103, Tryz.f103), (29, Tryz.f29)]
theorem worksteallaw31BoundRounds2_ok : CO Tryz.prog worksteallaw31BoundRounds2_k := co_fn mixed Tryz.func10 [kshort_k, kconfig_k, worksteallaw31Steady_k, boundPlay2_k, worksteallaw31Awake_k, machineNew_k, clientNew_k, workerNew_k, memoryMemoryCount_k, scriptMachine_k, clientClientStep_k, workerWorkerStep_k, clockClockTick_k, clockClockSet_k, memoryMemoryLast_k, clientClientStatus_k, roundsK_k, workerWorkerStatus_k, pNext_k, pState_k] ⟨kshort_ok, kconfig_ok, worksteallaw31Steady_ok, boundPlay2_ok, worksteallaw31Awake_ok, machineNew_ok, clientNew_ok, workerNew_ok, memoryMemoryCount_ok, scriptMachine_ok, clientClientStep_ok, workerWorkerStep_ok, clockClockTick_ok, clockClockSet_ok, memoryMemoryLast_ok, clientClientStatus_ok, roundsK_ok, workerWorkerStatus_ok, pNext_ok, pState_ok, trivial⟩ worksteallaw31BoundRounds2_tb ⟨Tryz.func21, Tryz.func68, Tryz.func114, Tryz.func47, Tryz.func44, Tryz.func56, Tryz.func105, Tryz.func146, Tryz.func103, Tryz.func29, trivial⟩ (fun f => (get [(68, [(6, .spl 22 [2] 3)]), (114, [(2, .unroll 3)]), (47, [(1, .loop [.rg 8 sI_, .ob 35 27, .ob 49 31, .ob 63 31, .ob 37 30, .cx 38 [.inr (.ptr 35 0), .inr (.sl 65), .inr (.ptr 37 0), .inr (.sl 94), .inl sI_, .inl (.row 1), .inl sI_, .inl sI_, .inl sU_, .inl sU_]] 18446744073709551616 0)]), (44, [(9, .cut [.ob 35 27, .ob 49 31, .ob 63 31, .ob 37 30, .cx 38 [.inr (.ptr 35 0), .inr (.sl 65), .inr (.ptr 37 0), .inr (.sl 94), .inl sI_, .inl (.row 1), .inl sI_, .inl sI_, .inl sU_, .inl sU_]] [0, 1, 2, 13, 14, 16, 21, 97, 98, 99]), (12, .loop [.ob 35 27, .cx 38 [.inr (.ptr 35 0), .inr (.sl 65), .inr (.ptr 37 0), .inr (.sl 94), .inl sI_, .inl (.row 1), .inl sI_, .inl sI_, .inl sU_, .inl sU_]] 18446744073709551616 1)]), (56, [(6, .loopR [.rg 6 sI_, .ob 132 9] 18446744073709551616 0)]), (146, [(2, .unroll 3)])] f).getD []) [] fun x => by kernel_rfl
end
section
open Go Go.RowKit
set_option maxRecDepth 100000
variable [Tb]
noncomputable abbrev boundPlay3_k : Con SR1 := ⟨54, [.val 13, .sh (.ro 5)], [.sh sI_, .sh sI_, .sh .b], fun x => boundPlay3 x.1 x.2.1⟩
noncomputable def boundPlay3_tb : List (Nat × Func) := [(68, Tryz.f68), (114, Tryz.f114), (56, Tryz.f56), (44, Tryz.f44), (105, Tryz.f105), (146, Tryz.f146), (103, Tryz.f103), (29, Tryz.f29)]
theorem boundPlay3_ok : CO Tryz.prog boundPlay3_k := co_fn mixed Tryz.func54 [machineNew_k, clientNew_k, workerNew_k, clientClientStatus_k, memoryMemoryCount_k, scriptMachine_k, clientClientStep_k, workerWorkerStep_k, clockClockTick_k, clockClockSet_k, memoryMemoryLast_k, workerWorkerStatus_k, pNext_k, pState_k, configMachines_k, roundsK_k] ⟨machineNew_ok, clientNew_ok, workerNew_ok, clientClientStatus_ok, memoryMemoryCount_ok, scriptMachine_ok, clientClientStep_ok, workerWorkerStep_ok, clockClockTick_ok, clockClockSet_ok, memoryMemoryLast_ok, workerWorkerStatus_ok, pNext_ok, pState_ok, configMachines_ok, roundsK_ok, trivial⟩ boundPlay3_tb ⟨Tryz.func68, Tryz.func114, Tryz.func56, Tryz.func44, Tryz.func105, Tryz.func146, Tryz.func103, Tryz.func29, trivial⟩ (fun f => (get [(68, [(6, .spl 22 [3] 4)]), (114, [(2, .unroll 4)]), (56, [(6, .loopR [.rg 6 sI_, .ob 129 9] 18446744073709551616 0), (6, .loopR [.rg 6 sI_, .ob 143 9] 18446744073709551616 0)]), (44, [(9, .cut [.ob 14 27, .ob 28 31, .ob 42 31, .ob 56 31, .ob 16 30, .cx 17 [.inr (.ptr 14 0), .inr (.sl 58), .inr (.ptr 16 0), .inr (.sl 90), .inl sI_, .inl (.row 1), .inl sI_, .inl sI_, .inl sU_, .inl sU_]] [9, 10, 11, 94, 95]), (9, .cut [.ob 14 27, .ob 28 31, .ob 42 31, .ob 56 31, .ob 16 30, .cx 17 [.inr (.ptr 14 0), .inr (.sl 58), .inr (.ptr 16 0), .inr (.sl 90), .inl sI_, .inl (.row 1), .inl sI_, .inl sI_, .inl sU_, .inl sU_]] [9, 10, 11, 95, 96]), (9, .cut [.ob 14 27, .ob 28 31, .ob 42 31, .ob 56 31, .ob 16 30, .cx 17 [.inr (.ptr 14 0), .inr (.sl 58), .inr (.ptr 16 0), .inr (.sl 90), .inl sI_, .inl (.row 1), .inl sI_, .inl sI_, .inl sU_, .inl sU_]] [9, 10, 11, 96, 97]), (9, .cut [.ob 14 27, .ob 28 31, .ob 42 31, .ob 56 31, .ob 16 30, .cx 17 [.inr (.ptr 14 0), .inr (.sl 58), .inr (.ptr 16 0), .inr (.sl 90), .inl sI_, .inl (.row 1), .inl sI_, .inl sI_, .inl sU_, .inl sU_]] [9, 10, 11, 97, 98]), (9, .cut [.ob 14 27, .ob 28 31, .ob 42 31, .ob 56 31, .ob 16 30, .cx 17 [.inr (.ptr 14 0), .inr (.sl 58), .inr (.ptr 16 0), .inr (.sl 90), .inl sI_, .inl (.row 1), .inl sI_, .inl sI_, .inl sU_, .inl sU_]] [9, 10, 11, 169, 173, 174]), (9, .cut [.ob 14 27, .ob 28 31, .ob 42 31, .ob 56 31, .ob 16 30, .cx 17 [.inr (.ptr 14 0), .inr (.sl 58), .inr (.ptr 16 0), .inr (.sl 90), .inl sI_, .inl (.row 1), .inl sI_, .inl sI_, .inl sU_, .inl sU_]] [9, 10, 11, 169, 174, 175]), (9, .cut [.ob 14 27, .ob 28 31, .ob 42 31, .ob 56 31, .ob 16 30, .cx 17 [.inr (.ptr 14 0), .inr (.sl 58), .inr (.ptr 16 0), .inr (.sl 90), .inl sI_, .inl (.row 1), .inl sI_, .inl sI_, .inl sU_, .inl sU_]] [9, 10, 11, 169, 174, 175, 176]), (9, .cut [.ob 14 27, .ob 28 31, .ob 42 31, .ob 56 31, .ob 16 30, .cx 17 [.inr (.ptr 14 0), .inr (.sl 58), .inr (.ptr 16 0), .inr (.sl 90), .inl sI_, .inl (.row 1), .inl sI_, .inl sI_, .inl sU_, .inl sU_]] [9, 10, 11, 169, 173, 175, 176]), (9, .cut [.ob 14 27, .ob 28 31, .ob 42 31, .ob 56 31, .ob 16 30, .cx 17 [.inr (.ptr 14 0), .inr (.sl 58), .inr (.ptr 16 0), .inr (.sl 90), .inl sI_, .inl (.row 1), .inl sI_, .inl sI_, .inl sU_, .inl sU_]] [9, 10, 11, 169, 173, 175, 176, 177]), (12, .loop [.ob 14 27, .cx 17 [.inr (.ptr 14 0), .inr (.sl 58), .inr (.ptr 16 0), .inr (.sl 90), .inl sI_, .inl (.row 1), .inl sI_, .inl sI_, .inl sU_, .inl sU_]] 18446744073709551616 1)]), (146, [(2, .unroll 4)])] f).getD []) [(4, .loop [.rg 4 sI_, .ob 14 27, .ob 28 31, .ob 42 31, .ob 56 31, .ob 16 30, .cx 17 [.inr (.ptr 14 0), .inr (.sl 58), .inr (.ptr 16 0), .inr (.sl 90), .inl sI_, .inl (.row 1), .inl sI_, .inl sI_, .inl sU_, .inl sU_]] 18446744073709551616 0)] fun x => by kernel_rfl
noncomputable def worksteallaw31BoundRounds3 (y0 : List Int) (y1 : List Int) : Option ((Bool × Unit) × (Unit)) :=
 (kshort y0 ([y1])).bind fun r1 =>
 if (!r1.1.1) = true then some ((true, ()), (()))
 else
 (kconfig y0).bind fun r2 =>
 (worksteallaw31Steady r2.1.1 ([]) y1 120).bind fun r3 =>
 (boundPlay3 r2.1.1 r3.1.1).bind fun r4 =>
 (worksteallaw31Awake).bind fun r5 =>
 if (!r5.1.1) = true then some ((false, ()), (()))
 else
 if r4.1.1 < 0 then some ((false, ()), (()))
 else
 if ((r3.1.1.length : Nat) : Int) < r4.1.1 then some ((false, ()), (()))
 else
 if 0 ≤ r4.1.1 ∧ r4.1.1 ≤ ((r3.1.1.length : Nat) : Int) then
   (machineNew r2.1.1).bind fun r6 =>
   if r6.1.2.1 ≠ 0 then
    if r6.1.2.1 ≠ 0 then some ((false, ()), (()))
    else some ((false, ()), (()))
   else
   (clientNew r2.1.1).bind fun r7 =>
   if r2.1.1.workers = ((3 : Nat) : Int) then
    (workerNew 0).bind fun w0 =>
    (workerNew 1).bind fun w1 =>
    (workerNew 2).bind fun w2 =>
    (lpF (travBody3 (r3.1.1.take (r4.1.1 : Int).toNat)) 18446744073709551616 (0, r6.1.1, w0.1.1, w1.1.1, w2.1.1, r7.1.1, (0, [], 0, 0, 0, 0, ()), ())).bind fun z =>
    doneK3 z.2.1 z.2.2.1 z.2.2.2.1 z.2.2.2.2.1 z.2.2.2.2.2.1 fun b _ _ _ _ _ => bndEnd b r2.1.1 r3.1.1 r4.1.1 r4.1.2.1 r4.1.2.2.1
   else none
 else none
noncomputable abbrev worksteallaw31BoundRounds3_k : Con SR1 := ⟨10, [.sh (.ro 17), .sh (.ro 1)], [.sh .b], fun x => worksteallaw31BoundRounds3 x.1 x.2.1⟩
noncomputable def worksteallaw31BoundRounds3_tb : List (Nat × Func) := [(21, Tryz.f21), (68, Tryz.f68), (114, Tryz.f114), (47, Tryz.f47), (44, Tryz.f44), (56, Tryz.f56), (105, Tryz.f105), (146, Tryz.f146), (103, Tryz.f103), (29, Tryz.f29)]
theorem worksteallaw31BoundRounds3_ok : CO Tryz.prog worksteallaw31BoundRounds3_k := co_fn mixed Tryz.func10 [kshort_k, kconfig_k, worksteallaw31Steady_k, boundPlay3_k, worksteallaw31Awake_k, machineNew_k, clientNew_k, workerNew_k, memoryMemoryCount_k, scriptMachine_k, clientClientStep_k, workerWorkerStep_k, clockClockTick_k, clockClockSet_k, memoryMemoryLast_k, clientClientStatus_k, roundsK_k, workerWorkerStatus_k, pNext_k, pState_k] ⟨kshort_ok, kconfig_ok, worksteallaw31Steady_ok, boundPlay3_ok, worksteallaw31Awake_ok, machineNew_ok, clientNew_ok, workerNew_ok, memoryMemoryCount_ok, scriptMachine_ok, clientClientStep_ok, workerWorkerStep_ok, clockClockTick_ok, clockClockSet_ok, memoryMemoryLast_ok, clientClientStatus_ok, roundsK_ok, workerWorkerStatus_ok, pNext_ok, pState_ok, trivial⟩ worksteallaw31BoundRounds3_tb ⟨Tryz.func21, Tryz.func68, Tryz.func114, Tryz.func47, Tryz.func44, Tryz.func56, Tryz.func105, Tryz.func146, Tryz.func103, Tryz.func29, trivial⟩ (fun f => (get [(68, [(6, .spl 22 [3] 4)]), (114, [(2, .unroll 4)]), (47, [(1, .loop [.rg 8 sI_, .ob 35 27, .ob 49 31, .ob 63 31, .ob 77 31, .ob 37 30, .cx 38 [.inr (.ptr 35 0), .inr (.sl 79), .inr (.ptr 37 0), .inr (.sl 111), .inl sI_, .inl (.row 1), .inl sI_, .inl sI_, .inl sU_, .inl sU_]] 18446744073709551616 0)]), (44, [(9, .cut [.ob 35 27, .ob 49 31, .ob 63 31, .ob 77 31, .ob 37 30, .cx 38 [.inr (.ptr 35 0), .inr (.sl 79), .inr (.ptr 37 0), .inr (.sl 111), .inl sI_, .inl (.row 1), .inl sI_, .inl sI_, .inl sU_, .inl sU_]] [0, 1, 2, 13, 14, 16, 21, 114, 115, 116]), (12, .loop [.ob 35 27, .cx 38 [.inr (.ptr 35 0), .inr (.sl 79), .inr (.ptr 37 0), .inr (.sl 111), .inl sI_, .inl (.row 1), .inl sI_, .inl sI_, .inl sU_, .inl sU_]] 18446744073709551616 1)]), (56, [(6, .loopR [.rg 6 sI_, .ob 150 9] 18446744073709551616 0)]), (146, [(2, .unroll 4)])] f).getD []) [] fun x => by kernel_rfl
end
section
open Go Go.RowKit
set_option maxRecDepth 100000
variable [Tb]
noncomputable abbrev boundPlay4_k : Con SR1 := ⟨54, [.val 13, .sh (.ro 5)], [.sh sI_, .sh sI_, .sh .b], fun x => boundPlay4 x.1 x.2.1⟩
noncomputable def boundPlay4_tb : List (Nat × Func) := [(68, Tryz.f68), (114, Tryz.f114), (56, Tryz.f56), (44, Tryz.f44), (105, Tryz.f105), (146, Tryz.f146), (103, Tryz.f103), (29, Tryz.f29)]
theorem boundPlay4_ok : CO Tryz.prog boundPlay4_k := co_fn mixed Tryz.func54 [machineNew_k, clientNew_k, workerNew_k, clientClientStatus_k, memoryMemoryCount_k, scriptMachine_k, clientClientStep_k, workerWorkerStep_k, clockClockTick_k, clockClockSet_k, memoryMemoryLast_k, workerWorkerStatus_k, pNext_k, pState_k, configMachines_k, roundsK_k] ⟨machineNew_ok, clientNew_ok, workerNew_ok, clientClientStatus_ok, memoryMemoryCount_ok, scriptMachine_ok, clientClientStep_ok, workerWorkerStep_ok, clockClockTick_ok, clockClockSet_ok, memoryMemoryLast_ok, workerWorkerStatus_ok, pNext_ok, pState_ok, configMachines_ok, roundsK_ok, trivial⟩ boundPlay4_tb ⟨Tryz.func68, Tryz.func114, Tryz.func56, Tryz.func44, Tryz.func105, Tryz.func146, Tryz.func103, Tryz.func29, trivial⟩ (fun f => (get [(68, [(6, .spl 22 [4] 5)]), (114, [(2, .unroll 5)]), (56, [(6, .loopR [.rg 6 sI_, .ob 147 9] 18446744073709551616 0), (6, .loopR [.rg 6 sI_, .ob 161 9] 18446744073709551616 0)]), (44, [(9, .cut [.ob 14 27, .ob 28 31, .ob 42 31, .ob 56 31, .ob 70 31, .ob 16 30, .cx 17 [.inr (.ptr 14 0), .inr (.sl 72), .inr (.ptr 16 0), .inr (.sl 107), .inl sI_, .inl (.row 1), .inl sI_, .inl sI_, .inl sU_, .inl sU_]] [9, 10, 11, 111, 112]), (9, .cut [.ob 14 27, .ob 28 31, .ob 42 31, .ob 56 31, .ob 70 31, .ob 16 30, .cx 17 [.inr (.ptr 14 0), .inr (.sl 72), .inr (.ptr 16 0), .inr (.sl 107), .inl sI_, .inl (.row 1), .inl sI_, .inl sI_, .inl sU_, .inl sU_]] [9, 10, 11, 112, 113]), (9, .cut [.ob 14 27, .ob 28 31, .ob 42 31, .ob 56 31, .ob 70 31, .ob 16 30, .cx 17 [.inr (.ptr 14 0), .inr (.sl 72), .inr (.ptr 16 0), .inr (.sl 107), .inl sI_, .inl (.row 1), .inl sI_, .inl sI_, .inl sU_, .inl sU_]] [9, 10, 11, 113, 114]), (9, .cut [.ob 14 27, .ob 28 31, .ob 42 31, .ob 56 31, .ob 70 31, .ob 16 30, .cx 17 [.inr (.ptr 14 0), .inr (.sl 72), .inr (.ptr 16 0), .inr (.sl 107), .inl sI_, .inl (.row 1), .inl sI_, .inl sI_, .inl sU_, .inl sU_]] [9, 10, 11, 114, 115]), (9, .cut [.ob 14 27, .ob 28 31, .ob 42 31, .ob 56 31, .ob 70 31, .ob 16 30, .cx 17 [.inr (.ptr 14 0), .inr (.sl 72), .inr (.ptr 16 0), .inr (.sl 107), .inl sI_, .inl (.row 1), .inl sI_, .inl sI_, .inl sU_, .inl sU_]] [9, 10, 11, 115, 116]), (9, .cut [.ob 14 27, .ob 28 31, .ob 42 31, .ob 56 31, .ob 70 31, .ob 16 30, .cx 17 [.inr (.ptr 14 0), .inr (.sl 72), .inr (.ptr 16 0), .inr (.sl 107), .inl sI_, .inl (.row 1), .inl sI_, .inl sI_, .inl sU_, .inl sU_]] [9, 10, 11, 187, 191, 192]), (9, .cut [.ob 14 27, .ob 28 31, .ob 42 31, .ob 56 31, .ob 70 31, .ob 16 30, .cx 17 [.inr (.ptr 14 0), .inr (.sl 72), .inr (.ptr 16 0), .inr (.sl 107), .inl sI_, .inl (.row 1), .inl sI_, .inl sI_, .inl sU_, .inl sU_]] [9, 10, 11, 187, 192, 193]), (9, .cut [.ob 14 27, .ob 28 31, .ob 42 31, .ob 56 31, .ob 70 31, .ob 16 30, .cx 17 [.inr (.ptr 14 0), .inr (.sl 72), .inr (.ptr 16 0), .inr (.sl 107), .inl sI_, .inl (.row 1), .inl sI_, .inl sI_, .inl sU_, .inl sU_]] [9, 10, 11, 187, 192, 193, 194]), (9, .cut [.ob 14 27, .ob 28 31, .ob 42 31, .ob 56 31, .ob 70 31, .ob 16 30, .cx 17 [.inr (.ptr 14 0), .inr (.sl 72), .inr (.ptr 16 0), .inr (.sl 107), .inl sI_, .inl (.row 1), .inl sI_, .inl sI_, .inl sU_, .inl sU_]] [9, 10, 11, 187, 191, 193, 194]), (9, .cut [.ob 14 27, .ob 28 31, .ob 42 31, .ob 56 31, .ob 70 31, .ob 16 30, .cx 17 [.inr (.ptr 14 0), .inr (.sl 72), .inr (.ptr 16 0), .inr (.sl 107), .inl sI_, .inl (.row 1), .inl sI_, .inl sI_, .inl sU_, .inl sU_]] [9, 10, 11, 187, 191, 193, 194, 195]), (12, .loop [.ob 14 27, .cx 17 [.inr (.ptr 14 0), .inr (.sl 72), .inr (.ptr 16 0), .inr (.sl 107), .inl sI_, .inl (.row 1), .inl sI_, .inl sI_, .inl sU_, .inl sU_]] 18446744073709551616 1)]), (146, [(2, .unroll 5)])] f).getD []) [(4, .loop [.rg 4 sI_, .ob 14 27, .ob 28 31, .ob 42 31, .ob 56 31, .ob 70 31, .ob 16 30, .cx 17 [.inr (.ptr 14 0), .inr (.sl 72), .inr (.ptr 16 0), .inr (.sl 107), .inl sI_, .inl (.row 1), .inl sI_, .inl sI_, .inl sU_, .inl sU_]] 18446744073709551616 0)] fun x => by kernel_rfl
noncomputable def worksteallaw31BoundRounds4 (y0 : List Int) (y1 : List Int) : Option ((Bool × Unit) × (Unit)) :=
 (kshort y0 ([y1])).bind fun r1 =>
 if (!r1.1.1) = true then some ((true, ()), (()))
 else
 (kconfig y0).bind fun r2 =>
 (worksteallaw31Steady r2.1.1 ([]) y1 120).bind fun r3 =>
 (boundPlay4 r2.1.1 r3.1.1).bind fun r4 =>
 (worksteallaw31Awake).bind fun r5 =>
 if (!r5.1.1) = true then some ((false, ()), (()))
 else
 if r4.1.1 < 0 then some ((false, ()), (()))
 else
 if ((r3.1.1.length : Nat) : Int) < r4.1.1 then some ((false, ()), (()))
 else
 if 0 ≤ r4.1.1 ∧ r4.1.1 ≤ ((r3.1.1.length : Nat) : Int) then
   (machineNew r2.1.1).bind fun r6 =>
   if r6.1.2.1 ≠ 0 then
    if r6.1.2.1 ≠ 0 then some ((false, ()), (()))
    else some ((false, ()), (()))
   else
   (clientNew r2.1.1).bind fun r7 =>
   if r2.1.1.workers = ((4 : Nat) : Int) then
    (workerNew 0).bind fun w0 =>
    (workerNew 1).bind fun w1 =>
    (workerNew 2).bind fun w2 =>
    (workerNew 3).bind fun w3 =>
    (lpF (travBody4 (r3.1.1.take (r4.1.1 : Int).toNat)) 18446744073709551616 (0, r6.1.1, w0.1.1, w1.1.1, w2.1.1, w3.1.1, r7.1.1, (0, [], 0, 0, 0, 0, ()), ())).bind fun z =>
    doneK4 z.2.1 z.2.2.1 z.2.2.2.1 z.2.2.2.2.1 z.2.2.2.2.2.1 z.2.2.2.2.2.2.1 fun b _ _ _ _ _ _ => bndEnd b r2.1.1 r3.1.1 r4.1.1 r4.1.2.1 r4.1.2.2.1
   else none
 else none
noncomputable abbrev worksteallaw31BoundRounds4_k : Con SR1 := ⟨10, [.sh (.ro 17), .sh (.ro 1)], [.sh .b], fun x => worksteallaw31BoundRounds4 x.1 x.2.1⟩
noncomputable def worksteallaw31BoundRounds4_tb : List (Nat × Func) := [(21, Tryz.f21), (68, Tryz.f68), (114, Tryz.f114), (47, Tryz.f47), (44, Tryz.f44), (56, Tryz.f56), (105, Tryz.f105), (146, Tryz.f146), (103, Tryz.f103), (29, Tryz.f29)]
theorem worksteallaw31BoundRounds4_ok : CO Tryz.prog worksteallaw31BoundRounds4_k := co_fn mixed Tryz.func10 [kshort_k, kconfig_k, worksteallaw31Steady_k, boundPlay4_k, worksteallaw31Awake_k, machineNew_k, clientNew_k, workerNew_k, memoryMemoryCount_k, scriptMachine_k, clientClientStep_k, workerWorkerStep_k, clockClockTick_k, clockClockSet_k, memoryMemoryLast_k, clientClientStatus_k, roundsK_k, workerWorkerStatus_k, pNext_k, pState_k] ⟨kshort_ok, kconfig_ok, worksteallaw31Steady_ok, boundPlay4_ok, worksteallaw31Awake_ok, machineNew_ok, clientNew_ok, workerNew_ok, memoryMemoryCount_ok, scriptMachine_ok, clientClientStep_ok, workerWorkerStep_ok, clockClockTick_ok, clockClockSet_ok, memoryMemoryLast_ok, clientClientStatus_ok, roundsK_ok, workerWorkerStatus_ok, pNext_ok, pState_ok, trivial⟩ worksteallaw31BoundRounds4_tb ⟨Tryz.func21, Tryz.func68, Tryz.func114, Tryz.func47, Tryz.func44, Tryz.func56, Tryz.func105, Tryz.func146, Tryz.func103, Tryz.func29, trivial⟩ (fun f => (get [(68, [(6, .spl 22 [4] 5)]), (114, [(2, .unroll 5)]), (47, [(1, .loop [.rg 8 sI_, .ob 35 27, .ob 49 31, .ob 63 31, .ob 77 31, .ob 91 31, .ob 37 30, .cx 38 [.inr (.ptr 35 0), .inr (.sl 93), .inr (.ptr 37 0), .inr (.sl 128), .inl sI_, .inl (.row 1), .inl sI_, .inl sI_, .inl sU_, .inl sU_]] 18446744073709551616 0)]), (44, [(9, .cut [.ob 35 27, .ob 49 31, .ob 63 31, .ob 77 31, .ob 91 31, .ob 37 30, .cx 38 [.inr (.ptr 35 0), .inr (.sl 93), .inr (.ptr 37 0), .inr (.sl 128), .inl sI_, .inl (.row 1), .inl sI_, .inl sI_, .inl sU_, .inl sU_]] [0, 1, 2, 13, 14, 16, 21, 131, 132, 133]), (12, .loop [.ob 35 27, .cx 38 [.inr (.ptr 35 0), .inr (.sl 93), .inr (.ptr 37 0), .inr (.sl 128), .inl sI_, .inl (.row 1), .inl sI_, .inl sI_, .inl sU_, .inl sU_]] 18446744073709551616 1)]), (56, [(6, .loopR [.rg 6 sI_, .ob 168 9] 18446744073709551616 0)]), (146, [(2, .unroll 5)])] f).getD []) [] fun x => by kernel_rfl
end
end Go.Proofs.YtgiagoeoifgliaaGreat
