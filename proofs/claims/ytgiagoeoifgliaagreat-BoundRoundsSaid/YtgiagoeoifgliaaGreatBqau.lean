/- The law BoundRounds, for every number of workers. -/
import Derived.Test.YtgiagoeoifgliaaGreatBqat
set_option linter.all false
namespace Go.Proofs.YtgiagoeoifgliaaGreat
open Go Go.RowKit
set_option maxRecDepth 100000
variable [Tb]
theorem awakeB_eq : worksteallaw31Awake = some ((true, ()), ()) := by kernel_rfl
theorem tkind1_good {c : Cfg} {K : Nat} {env : EnvP} {w0 : WorkerV MV} {cl : ClientV MV} {eng : EngT} {i : Int} {l : List EntV} (h : EI c K env) (hK : 1 ≤ K ∧ K ≤ 1000000) (hs : c.subs.length ≤ 1000000) (h0 : WI c K 0 w0) (hc : CI c cl) :
    Good (travKind1 l (i, env, w0, cl, eng, ()) ((env.m.count, ()), (env.m, ()))) fun z => EI c (K + 3) z.1 ∧ WI c (K + 3) 0 z.2.1 ∧ CI c z.2.2.1 ∧ z.2.2.2.1 = eng := by
  unfold travKind1
  refine Good.ite (fun hk => ?_) fun hk => Good.ite (fun _ => ?_) fun _ => Good.ite (fun _ => ?_) fun _ => ?_
  · refine (mach_good (n := 2) (by decide) hk).bind fun o ho => ?_
    refine Good.ite (fun _ => ?_) fun n1 => Good.ite (fun _ => ?_) fun n0 => ?_
    · exact (ci_step h hK hs hc).bind fun o ho => .some_ ⟨ho.2.1, h0.up (by omega), ho.2.2, rfl⟩
    · exact (wi_step h hK h0).bind fun o ho => .some_ ⟨ho.2.1, ho.2.2, hc, rfl⟩
    · exfalso; have m0 : ¬ o.1.1 = ((0 : Nat) : Int) := n0; have m1 : ¬ o.1.1 = ((1 : Nat) : Int) := n1; omega
  · exact ⟨_, rfl, (EI.clk h).up (by omega), h0.up (by omega), hc, rfl⟩
  · exact ⟨_, rfl, (EI.clk h).up (by omega), h0.up (by omega), hc, rfl⟩
  · exact ⟨_, rfl, h.up (by omega), h0.up (by omega), hc, rfl⟩
noncomputable def travS1 (x : EntV) (s : EnvP × (WorkerV MV) × (ClientV MV) × EngT × Unit) : Option (EnvP × (WorkerV MV) × (ClientV MV) × EngT × Unit) :=
 (travKind1 [x] (0, s) ((s.1.m.count, ()), (s.1.m, ()))).bind fun z => travTail s.1.m.count z.1 z.2.2.2.1 fun e g => some (e, z.2.1, z.2.2.1, g, ())
theorem kindAt1 (l : List EntV) (i : Int) (s : EnvP × (WorkerV MV) × (ClientV MV) × EngT × Unit) (r : (Int × Unit) × (MemV × Unit)) : travKind1 l (i, s) r = travKind1 [atK5 l i] (0, s) r := by kernel_rfl
theorem bodyAt1 (l : List EntV) (self : TravT1 → Option TravT1) (i : Int) (s : EnvP × (WorkerV MV) × (ClientV MV) × EngT × Unit) (hl : l.length ≤ 1000000) (h0 : 0 ≤ i) (h1 : i ≤ (l.length : Int)) : travBody1 l self (i, s) = if i < (l.length : Int) then (travS1 (atK5 l i) s).bind fun s' => self (i + 1, s') else some (i, s) := by
  have e1 : wi (i + 1) = i + 1 := wi_id (rg_lit (by omega))
  by_cases h : i < (l.length : Int)
  · unfold travBody1 travS1
    simp only
    rw [if_pos h, if_pos ⟨h0, h⟩, if_pos h, count_eq, bnd, kindAt1, Option.bind_assoc, e1]
    congr 1
    funext z
    rw [travTail_bind]
    rfl
  · unfold travBody1
    simp only
    rw [if_neg h, if_neg h]
theorem goAt1 (l : List EntV) (self : TravT1 → Option TravT1) (i : Int) (s : EnvP × (WorkerV MV) × (ClientV MV) × EngT × Unit) (hl : l.length ≤ 1000000) (h0 : 0 ≤ i) (h : i < (l.length : Int)) : playGo1 l self (i, s) = (travS1 (atK5 l i) s).bind fun s' => self (i + 1, s') := by
  have e1 : wi (i + 1) = i + 1 := wi_id (rg_lit (by omega))
  unfold playGo1 travS1
  simp only
  rw [if_pos ⟨h0, h⟩, count_eq, bnd, kindAt1, Option.bind_assoc, e1]
  congr 1
  funext z
  rw [travTail_bind]
  rfl
def inv1 (c : Cfg) (K : Nat) (s : EnvP × (WorkerV MV) × (ClientV MV) × EngT × Unit) : Prop := EI c K s.1 ∧ WI c K 0 s.2.1 ∧ CI c s.2.2.1 ∧ s.2.2.2.1.2.1.length ≤ K
theorem travS1_good {c : Cfg} {K : Nat} {x : EntV} {s : EnvP × (WorkerV MV) × (ClientV MV) × EngT × Unit} (hK : 1 ≤ K ∧ K ≤ 1000000) (hs : c.subs.length ≤ 1000000) (h : inv1 c K s) : Good (travS1 x s) (inv1 c (K + 3)) := by
  obtain ⟨env, w0, cl, eng, ⟨⟩⟩ := s
  obtain ⟨h, h0, hc, hg⟩ := h
  simp only at h h0 hc hg
  unfold travS1
  refine (tkind1_good (i := 0) (l := [x]) (eng := eng) h hK hs h0 hc).bind fun z hz => ?_
  obtain ⟨ze, z0, zc, zg, ⟨⟩⟩ := z
  obtain ⟨a3, b0, ac, ag⟩ := hz
  simp only at a3 b0 ac ag
  subst ag
  exact ttail_good (N := K + 3) a3.ok.ev (by show zg.2.1.length ≤ _; omega) (by omega) fun eng' he => .some_ ⟨a3, b0, ac, he⟩
theorem doneK1_ex (env : EnvP) (w0 : WorkerV MV) (cl : ClientV MV) (ht : env.c.tasks ≤ 1000000) : ∃ b : Bool, ∀ {α : Type} (K : Bool → EnvP → WorkerV MV → ClientV MV → Option α), doneK1 env w0 cl K = K b env w0 cl := by
  obtain ⟨a, ea⟩ := cstat cl
  obtain ⟨a0, e0⟩ := wstat w0
  obtain ⟨b, hb⟩ := doneL_ex env.l env.c.tasks ht env.m
  by_cases h : a ≠ 4
  · exact ⟨false, fun K => by unfold doneK1; rw [ea, bnd, if_pos h]⟩
  · by_cases h0 : a0 = 2
    · exact ⟨false, fun K => by unfold doneK1; rw [ea, bnd, if_neg h, e0, bnd, if_pos h0]⟩
    · exact ⟨b, fun K => by unfold doneK1; rw [ea, bnd, if_neg h, e0, bnd, if_neg h0, gL_eq]; exact hb _⟩
open Classical in
noncomputable def dn1 (s : EnvP × (WorkerV MV) × (ClientV MV) × EngT × Unit) : Bool := if ht : s.1.c.tasks ≤ 1000000 then Classical.choose (doneK1_ex s.1 s.2.1 s.2.2.1 ht) else false
theorem dn1_eq (s : EnvP × (WorkerV MV) × (ClientV MV) × EngT × Unit) (ht : s.1.c.tasks ≤ 1000000) {α : Type} (K : Bool → EnvP → WorkerV MV → ClientV MV → Option α) : doneK1 s.1 s.2.1 s.2.2.1 K = K (dn1 s) s.1 s.2.1 s.2.2.1 := by
  unfold dn1
  rw [dif_pos ht]
  exact Classical.choose_spec (doneK1_ex s.1 s.2.1 s.2.2.1 ht) K
theorem playAt1 {c : Cfg} (hc : c.tasks ≤ 1000000) (l : List EntV) (self : TravT1 → Option TravT1) (i : Int) (s : EnvP × (WorkerV MV) × (ClientV MV) × EngT × Unit) (hl : l.length ≤ 1000000) (h0 : 0 ≤ i) (h1 : i ≤ (l.length : Int)) (hi : ∃ K, K ≤ 1000000 ∧ inv1 c K s) : playBody1 l self (i, s) = if i < (l.length : Int) then (if dn1 s = true then some (i, s) else (travS1 (atK5 l i) s).bind fun s' => self (i + 1, s')) else some (i, s) := by
  obtain ⟨K, _, hi⟩ := hi
  have ht : s.1.c.tasks ≤ 1000000 := by rw [hi.1.c]; exact hc
  by_cases h : i < (l.length : Int)
  · unfold playBody1
    simp only
    rw [if_pos h, if_pos h, dn1_eq s ht]
    by_cases hd : dn1 s = true
    · rw [if_pos hd]
      simp only [hd]
    · rw [if_neg hd]
      have hd : dn1 s = false := by revert hd; cases dn1 s <;> simp
      simp only [hd]
      exact goAt1 l self i s hl h0 h
  · unfold playBody1
    simp only
    rw [if_neg h, if_neg h]
theorem bounds1_good {y0 y1 : List Int} {o : (Cfg × Unit) × Unit} (e : kconfig y0 = some o) (ho : DecOk o.1.1) (hw : o.1.1.workers = (((1 : Nat) : Int))) (hy : y1.length ≤ 1000000) : Good (worksteallaw31BoundRounds1 y0 y1) fun r => r.1.1 = true := by
  obtain ⟨⟨c, ⟨⟩⟩, ⟨⟩⟩ := o
  simp only at ho hw
  unfold worksteallaw31BoundRounds1
  refine (short_good y0 [y1] (show 1 ≤ 1000000 by decide)).bind fun r _ => Good.ite (fun _ => .some_ rfl) fun _ => ?_
  rw [e, bnd]
  have hwk := ho.w
  obtain ⟨⟨⟨l, ⟨⟩⟩, ⟨⟩⟩, es, hs⟩ := steady_len (c := c) (l := y1) hy hwk
  have hs : l.length ≤ 24200 := hs
  rw [es, bnd]
  have htk := ho.t
  have hsn := ho.sn
  have hwi : wi (c.workers + 1) = c.workers + 1 := wi_id (rg_lit (by omega))
  obtain ⟨m, s1, p1, p2, p3, p4, p5, p6⟩ := play_lp (D := dn1) (I := inv1 c) (playAt1 (c := c) (by omega)) (fun K x s h1 h2 hi => travS1_good ⟨h1, h2⟩ (by omega) hi) (l := l) (by omega) 18446744073709551616 0 (envV c, workC (layV c) 0 ⟨0, 0, 0, 0, .top⟩, clieC c.subs c.workers ⟨0, 0, false, .n1⟩, (0, [], 0, 0, 0, 0, ()), ()) (Int.le_refl 0) (by omega) (by omega) ⟨ei_new ho, wi_new, ci_ok, Nat.zero_le _⟩
  have hm : 0 ≤ m ∧ m ≤ (l.length : Int) := ⟨p2, p3⟩
  have ht1 : s1.1.c.tasks ≤ 1000000 := by rw [p5.1.c]; omega
  have hl1 : (l.take m.toNat).length ≤ 1000000 := by rw [List.length_take]; omega
  have er : roundsK (l.take m.toNat) (c.workers + 1) = some ((roundsV (l.take m.toNat) (c.workers + 1), ()), ()) := by unfold roundsK; rw [if_pos hl1, if_pos (by omega)]
  have eP : boundPlay1 c l = some ((m, roundsV (l.take m.toNat) (c.workers + 1), dn1 s1, ()), ()) := by
    unfold boundPlay1
    rw [new_eq (dec_valid ho), bnd, if_neg (fun h => h rfl), ci_new ho, bnd, if_pos hw, wk_new (l := layV c) (j := 0), bnd, p1, bnd, if_pos hm, machines_eq, bnd]
    simp only
    rw [hwi, er, bnd, dn1_eq s1 ht1]
  rw [eP, bnd, awakeB_eq, bnd, if_neg (by decide), if_neg (show ¬ m < 0 by omega), if_neg (show ¬ ((l.length : Nat) : Int) < m by omega), if_pos hm]
  have eT : lpF (travBody1 (l.take m.toNat)) 18446744073709551616 (0, envV c, workC (layV c) 0 ⟨0, 0, 0, 0, .top⟩, clieC c.subs c.workers ⟨0, 0, false, .n1⟩, (0, [], 0, 0, 0, 0, ()), ()) = some (((l.take m.toNat).length : Int), s1) := by
    rw [run_lp (step := travS1) bodyAt1 hl1 _ 0 _ (Int.le_refl 0) (by omega) (by omega)]
    have p4 : runF travS1 (l.take m.toNat) (envV c, workC (layV c) 0 ⟨0, 0, 0, 0, .top⟩, clieC c.subs c.workers ⟨0, 0, false, .n1⟩, (0, [], 0, 0, 0, 0, ()), ()) = some s1 := by
      have h5 : (m - 0).toNat = m.toNat := by omega
      rw [h5] at p4
      exact p4
    show (runF travS1 (l.take m.toNat) (envV c, workC (layV c) 0 ⟨0, 0, 0, 0, .top⟩, clieC c.subs c.workers ⟨0, 0, false, .n1⟩, (0, [], 0, 0, 0, 0, ()), ())).bind _ = _
    rw [p4]
    rfl
  rw [new_eq (dec_valid ho), bnd, if_neg (fun h => h rfl), ci_new ho, bnd, if_pos hw, wk_new (l := layV c) (j := 0), bnd, eT, bnd, dn1_eq s1 ht1]
  unfold bndEnd
  rw [if_pos rfl, if_pos hm, hwi, er, bnd, if_pos rfl]
  by_cases hd : dn1 s1 = true
  · rw [if_pos hd]; exact .some_ rfl
  · rw [if_neg hd]
    refine .some_ ?_
    exact decide_eq_true (p6.resolve_right hd)
theorem tkind2_good {c : Cfg} {K : Nat} {env : EnvP} {w0 w1 : WorkerV MV} {cl : ClientV MV} {eng : EngT} {i : Int} {l : List EntV} (h : EI c K env) (hK : 1 ≤ K ∧ K ≤ 1000000) (hs : c.subs.length ≤ 1000000) (h0 : WI c K 0 w0) (h1 : WI c K 1 w1) (hc : CI c cl) :
    Good (travKind2 l (i, env, w0, w1, cl, eng, ()) ((env.m.count, ()), (env.m, ()))) fun z => EI c (K + 3) z.1 ∧ WI c (K + 3) 0 z.2.1 ∧ WI c (K + 3) 1 z.2.2.1 ∧ CI c z.2.2.2.1 ∧ z.2.2.2.2.1 = eng := by
  unfold travKind2
  refine Good.ite (fun hk => ?_) fun hk => Good.ite (fun _ => ?_) fun _ => Good.ite (fun _ => ?_) fun _ => ?_
  · refine (mach_good (n := 3) (by decide) hk).bind fun o ho => ?_
    refine Good.ite (fun _ => ?_) fun n2 => Good.ite (fun _ => ?_) fun n1 => Good.ite (fun _ => ?_) fun n0 => ?_
    · exact (ci_step h hK hs hc).bind fun o ho => .some_ ⟨ho.2.1, h0.up (by omega), h1.up (by omega), ho.2.2, rfl⟩
    · exact (wi_step h hK h1).bind fun o ho => .some_ ⟨ho.2.1, h0.up (by omega), ho.2.2, hc, rfl⟩
    · exact (wi_step h hK h0).bind fun o ho => .some_ ⟨ho.2.1, ho.2.2, h1.up (by omega), hc, rfl⟩
    · exfalso; have m0 : ¬ o.1.1 = ((0 : Nat) : Int) := n0; have m1 : ¬ o.1.1 = ((1 : Nat) : Int) := n1; have m2 : ¬ o.1.1 = ((2 : Nat) : Int) := n2; omega
  · exact ⟨_, rfl, (EI.clk h).up (by omega), h0.up (by omega), h1.up (by omega), hc, rfl⟩
  · exact ⟨_, rfl, (EI.clk h).up (by omega), h0.up (by omega), h1.up (by omega), hc, rfl⟩
  · exact ⟨_, rfl, h.up (by omega), h0.up (by omega), h1.up (by omega), hc, rfl⟩
noncomputable def travS2 (x : EntV) (s : EnvP × (WorkerV MV) × (WorkerV MV) × (ClientV MV) × EngT × Unit) : Option (EnvP × (WorkerV MV) × (WorkerV MV) × (ClientV MV) × EngT × Unit) :=
 (travKind2 [x] (0, s) ((s.1.m.count, ()), (s.1.m, ()))).bind fun z => travTail s.1.m.count z.1 z.2.2.2.2.1 fun e g => some (e, z.2.1, z.2.2.1, z.2.2.2.1, g, ())
theorem kindAt2 (l : List EntV) (i : Int) (s : EnvP × (WorkerV MV) × (WorkerV MV) × (ClientV MV) × EngT × Unit) (r : (Int × Unit) × (MemV × Unit)) : travKind2 l (i, s) r = travKind2 [atK5 l i] (0, s) r := by kernel_rfl
theorem bodyAt2 (l : List EntV) (self : TravT2 → Option TravT2) (i : Int) (s : EnvP × (WorkerV MV) × (WorkerV MV) × (ClientV MV) × EngT × Unit) (hl : l.length ≤ 1000000) (h0 : 0 ≤ i) (h1 : i ≤ (l.length : Int)) : travBody2 l self (i, s) = if i < (l.length : Int) then (travS2 (atK5 l i) s).bind fun s' => self (i + 1, s') else some (i, s) := by
  have e1 : wi (i + 1) = i + 1 := wi_id (rg_lit (by omega))
  by_cases h : i < (l.length : Int)
  · unfold travBody2 travS2
    simp only
    rw [if_pos h, if_pos ⟨h0, h⟩, if_pos h, count_eq, bnd, kindAt2, Option.bind_assoc, e1]
    congr 1
    funext z
    rw [travTail_bind]
    rfl
  · unfold travBody2
    simp only
    rw [if_neg h, if_neg h]
theorem goAt2 (l : List EntV) (self : TravT2 → Option TravT2) (i : Int) (s : EnvP × (WorkerV MV) × (WorkerV MV) × (ClientV MV) × EngT × Unit) (hl : l.length ≤ 1000000) (h0 : 0 ≤ i) (h : i < (l.length : Int)) : playGo2 l self (i, s) = (travS2 (atK5 l i) s).bind fun s' => self (i + 1, s') := by
  have e1 : wi (i + 1) = i + 1 := wi_id (rg_lit (by omega))
  unfold playGo2 travS2
  simp only
  rw [if_pos ⟨h0, h⟩, count_eq, bnd, kindAt2, Option.bind_assoc, e1]
  congr 1
  funext z
  rw [travTail_bind]
  rfl
def inv2 (c : Cfg) (K : Nat) (s : EnvP × (WorkerV MV) × (WorkerV MV) × (ClientV MV) × EngT × Unit) : Prop := EI c K s.1 ∧ WI c K 0 s.2.1 ∧ WI c K 1 s.2.2.1 ∧ CI c s.2.2.2.1 ∧ s.2.2.2.2.1.2.1.length ≤ K
theorem travS2_good {c : Cfg} {K : Nat} {x : EntV} {s : EnvP × (WorkerV MV) × (WorkerV MV) × (ClientV MV) × EngT × Unit} (hK : 1 ≤ K ∧ K ≤ 1000000) (hs : c.subs.length ≤ 1000000) (h : inv2 c K s) : Good (travS2 x s) (inv2 c (K + 3)) := by
  obtain ⟨env, w0, w1, cl, eng, ⟨⟩⟩ := s
  obtain ⟨h, h0, h1, hc, hg⟩ := h
  simp only at h h0 h1 hc hg
  unfold travS2
  refine (tkind2_good (i := 0) (l := [x]) (eng := eng) h hK hs h0 h1 hc).bind fun z hz => ?_
  obtain ⟨ze, z0, z1, zc, zg, ⟨⟩⟩ := z
  obtain ⟨a3, b0, b1, ac, ag⟩ := hz
  simp only at a3 b0 b1 ac ag
  subst ag
  exact ttail_good (N := K + 3) a3.ok.ev (by show zg.2.1.length ≤ _; omega) (by omega) fun eng' he => .some_ ⟨a3, b0, b1, ac, he⟩
theorem doneK2_ex (env : EnvP) (w0 : WorkerV MV) (w1 : WorkerV MV) (cl : ClientV MV) (ht : env.c.tasks ≤ 1000000) : ∃ b : Bool, ∀ {α : Type} (K : Bool → EnvP → WorkerV MV → WorkerV MV → ClientV MV → Option α), doneK2 env w0 w1 cl K = K b env w0 w1 cl := by
  obtain ⟨a, ea⟩ := cstat cl
  obtain ⟨a0, e0⟩ := wstat w0
  obtain ⟨a1, e1⟩ := wstat w1
  obtain ⟨b, hb⟩ := doneL_ex env.l env.c.tasks ht env.m
  by_cases h : a ≠ 4
  · exact ⟨false, fun K => by unfold doneK2; rw [ea, bnd, if_pos h]⟩
  · by_cases h0 : a0 = 2
    · exact ⟨false, fun K => by unfold doneK2; rw [ea, bnd, if_neg h, e0, bnd, if_pos h0]⟩
    · by_cases h1 : a1 = 2
      · exact ⟨false, fun K => by unfold doneK2; rw [ea, bnd, if_neg h, e0, bnd, if_neg h0, e1, bnd, if_pos h1]⟩
      · exact ⟨b, fun K => by unfold doneK2; rw [ea, bnd, if_neg h, e0, bnd, if_neg h0, e1, bnd, if_neg h1, gL_eq]; exact hb _⟩
open Classical in
noncomputable def dn2 (s : EnvP × (WorkerV MV) × (WorkerV MV) × (ClientV MV) × EngT × Unit) : Bool := if ht : s.1.c.tasks ≤ 1000000 then Classical.choose (doneK2_ex s.1 s.2.1 s.2.2.1 s.2.2.2.1 ht) else false
theorem dn2_eq (s : EnvP × (WorkerV MV) × (WorkerV MV) × (ClientV MV) × EngT × Unit) (ht : s.1.c.tasks ≤ 1000000) {α : Type} (K : Bool → EnvP → WorkerV MV → WorkerV MV → ClientV MV → Option α) : doneK2 s.1 s.2.1 s.2.2.1 s.2.2.2.1 K = K (dn2 s) s.1 s.2.1 s.2.2.1 s.2.2.2.1 := by
  unfold dn2
  rw [dif_pos ht]
  exact Classical.choose_spec (doneK2_ex s.1 s.2.1 s.2.2.1 s.2.2.2.1 ht) K
theorem playAt2 {c : Cfg} (hc : c.tasks ≤ 1000000) (l : List EntV) (self : TravT2 → Option TravT2) (i : Int) (s : EnvP × (WorkerV MV) × (WorkerV MV) × (ClientV MV) × EngT × Unit) (hl : l.length ≤ 1000000) (h0 : 0 ≤ i) (h1 : i ≤ (l.length : Int)) (hi : ∃ K, K ≤ 1000000 ∧ inv2 c K s) : playBody2 l self (i, s) = if i < (l.length : Int) then (if dn2 s = true then some (i, s) else (travS2 (atK5 l i) s).bind fun s' => self (i + 1, s')) else some (i, s) := by
  obtain ⟨K, _, hi⟩ := hi
  have ht : s.1.c.tasks ≤ 1000000 := by rw [hi.1.c]; exact hc
  by_cases h : i < (l.length : Int)
  · unfold playBody2
    simp only
    rw [if_pos h, if_pos h, dn2_eq s ht]
    by_cases hd : dn2 s = true
    · rw [if_pos hd]
      simp only [hd]
    · rw [if_neg hd]
      have hd : dn2 s = false := by revert hd; cases dn2 s <;> simp
      simp only [hd]
      exact goAt2 l self i s hl h0 h
  · unfold playBody2
    simp only
    rw [if_neg h, if_neg h]
theorem bounds2_good {y0 y1 : List Int} {o : (Cfg × Unit) × Unit} (e : kconfig y0 = some o) (ho : DecOk o.1.1) (hw : o.1.1.workers = (((2 : Nat) : Int))) (hy : y1.length ≤ 1000000) : Good (worksteallaw31BoundRounds2 y0 y1) fun r => r.1.1 = true := by
  obtain ⟨⟨c, ⟨⟩⟩, ⟨⟩⟩ := o
  simp only at ho hw
  unfold worksteallaw31BoundRounds2
  refine (short_good y0 [y1] (show 1 ≤ 1000000 by decide)).bind fun r _ => Good.ite (fun _ => .some_ rfl) fun _ => ?_
  rw [e, bnd]
  have hwk := ho.w
  obtain ⟨⟨⟨l, ⟨⟩⟩, ⟨⟩⟩, es, hs⟩ := steady_len (c := c) (l := y1) hy hwk
  have hs : l.length ≤ 24200 := hs
  rw [es, bnd]
  have htk := ho.t
  have hsn := ho.sn
  have hwi : wi (c.workers + 1) = c.workers + 1 := wi_id (rg_lit (by omega))
  obtain ⟨m, s1, p1, p2, p3, p4, p5, p6⟩ := play_lp (D := dn2) (I := inv2 c) (playAt2 (c := c) (by omega)) (fun K x s h1 h2 hi => travS2_good ⟨h1, h2⟩ (by omega) hi) (l := l) (by omega) 18446744073709551616 0 (envV c, workC (layV c) 0 ⟨0, 0, 0, 0, .top⟩, workC (layV c) 1 ⟨0, 0, 0, 0, .top⟩, clieC c.subs c.workers ⟨0, 0, false, .n1⟩, (0, [], 0, 0, 0, 0, ()), ()) (Int.le_refl 0) (by omega) (by omega) ⟨ei_new ho, wi_new, wi_new, ci_ok, Nat.zero_le _⟩
  have hm : 0 ≤ m ∧ m ≤ (l.length : Int) := ⟨p2, p3⟩
  have ht1 : s1.1.c.tasks ≤ 1000000 := by rw [p5.1.c]; omega
  have hl1 : (l.take m.toNat).length ≤ 1000000 := by rw [List.length_take]; omega
  have er : roundsK (l.take m.toNat) (c.workers + 1) = some ((roundsV (l.take m.toNat) (c.workers + 1), ()), ()) := by unfold roundsK; rw [if_pos hl1, if_pos (by omega)]
  have eP : boundPlay2 c l = some ((m, roundsV (l.take m.toNat) (c.workers + 1), dn2 s1, ()), ()) := by
    unfold boundPlay2
    rw [new_eq (dec_valid ho), bnd, if_neg (fun h => h rfl), ci_new ho, bnd, if_pos hw, wk_new (l := layV c) (j := 0), bnd, wk_new (l := layV c) (j := 1), bnd, p1, bnd, if_pos hm, machines_eq, bnd]
    simp only
    rw [hwi, er, bnd, dn2_eq s1 ht1]
  rw [eP, bnd, awakeB_eq, bnd, if_neg (by decide), if_neg (show ¬ m < 0 by omega), if_neg (show ¬ ((l.length : Nat) : Int) < m by omega), if_pos hm]
  have eT : lpF (travBody2 (l.take m.toNat)) 18446744073709551616 (0, envV c, workC (layV c) 0 ⟨0, 0, 0, 0, .top⟩, workC (layV c) 1 ⟨0, 0, 0, 0, .top⟩, clieC c.subs c.workers ⟨0, 0, false, .n1⟩, (0, [], 0, 0, 0, 0, ()), ()) = some (((l.take m.toNat).length : Int), s1) := by
    rw [run_lp (step := travS2) bodyAt2 hl1 _ 0 _ (Int.le_refl 0) (by omega) (by omega)]
    have p4 : runF travS2 (l.take m.toNat) (envV c, workC (layV c) 0 ⟨0, 0, 0, 0, .top⟩, workC (layV c) 1 ⟨0, 0, 0, 0, .top⟩, clieC c.subs c.workers ⟨0, 0, false, .n1⟩, (0, [], 0, 0, 0, 0, ()), ()) = some s1 := by
      have h5 : (m - 0).toNat = m.toNat := by omega
      rw [h5] at p4
      exact p4
    show (runF travS2 (l.take m.toNat) (envV c, workC (layV c) 0 ⟨0, 0, 0, 0, .top⟩, workC (layV c) 1 ⟨0, 0, 0, 0, .top⟩, clieC c.subs c.workers ⟨0, 0, false, .n1⟩, (0, [], 0, 0, 0, 0, ()), ())).bind _ = _
    rw [p4]
    rfl
  rw [new_eq (dec_valid ho), bnd, if_neg (fun h => h rfl), ci_new ho, bnd, if_pos hw, wk_new (l := layV c) (j := 0), bnd, wk_new (l := layV c) (j := 1), bnd, eT, bnd, dn2_eq s1 ht1]
  unfold bndEnd
  rw [if_pos rfl, if_pos hm, hwi, er, bnd, if_pos rfl]
  by_cases hd : dn2 s1 = true
  · rw [if_pos hd]; exact .some_ rfl
  · rw [if_neg hd]
    refine .some_ ?_
    exact decide_eq_true (p6.resolve_right hd)
theorem tkind3_good {c : Cfg} {K : Nat} {env : EnvP} {w0 w1 w2 : WorkerV MV} {cl : ClientV MV} {eng : EngT} {i : Int} {l : List EntV} (h : EI c K env) (hK : 1 ≤ K ∧ K ≤ 1000000) (hs : c.subs.length ≤ 1000000) (h0 : WI c K 0 w0) (h1 : WI c K 1 w1) (h2 : WI c K 2 w2) (hc : CI c cl) :
    Good (travKind3 l (i, env, w0, w1, w2, cl, eng, ()) ((env.m.count, ()), (env.m, ()))) fun z => EI c (K + 3) z.1 ∧ WI c (K + 3) 0 z.2.1 ∧ WI c (K + 3) 1 z.2.2.1 ∧ WI c (K + 3) 2 z.2.2.2.1 ∧ CI c z.2.2.2.2.1 ∧ z.2.2.2.2.2.1 = eng := by
  unfold travKind3
  refine Good.ite (fun hk => ?_) fun hk => Good.ite (fun _ => ?_) fun _ => Good.ite (fun _ => ?_) fun _ => ?_
  · refine (mach_good (n := 4) (by decide) hk).bind fun o ho => ?_
    refine Good.ite (fun _ => ?_) fun n3 => Good.ite (fun _ => ?_) fun n2 => Good.ite (fun _ => ?_) fun n1 => Good.ite (fun _ => ?_) fun n0 => ?_
    · exact (ci_step h hK hs hc).bind fun o ho => .some_ ⟨ho.2.1, h0.up (by omega), h1.up (by omega), h2.up (by omega), ho.2.2, rfl⟩
    · exact (wi_step h hK h2).bind fun o ho => .some_ ⟨ho.2.1, h0.up (by omega), h1.up (by omega), ho.2.2, hc, rfl⟩
    · exact (wi_step h hK h1).bind fun o ho => .some_ ⟨ho.2.1, h0.up (by omega), ho.2.2, h2.up (by omega), hc, rfl⟩
    · exact (wi_step h hK h0).bind fun o ho => .some_ ⟨ho.2.1, ho.2.2, h1.up (by omega), h2.up (by omega), hc, rfl⟩
    · exfalso; have m0 : ¬ o.1.1 = ((0 : Nat) : Int) := n0; have m1 : ¬ o.1.1 = ((1 : Nat) : Int) := n1; have m2 : ¬ o.1.1 = ((2 : Nat) : Int) := n2; have m3 : ¬ o.1.1 = ((3 : Nat) : Int) := n3; omega
  · exact ⟨_, rfl, (EI.clk h).up (by omega), h0.up (by omega), h1.up (by omega), h2.up (by omega), hc, rfl⟩
  · exact ⟨_, rfl, (EI.clk h).up (by omega), h0.up (by omega), h1.up (by omega), h2.up (by omega), hc, rfl⟩
  · exact ⟨_, rfl, h.up (by omega), h0.up (by omega), h1.up (by omega), h2.up (by omega), hc, rfl⟩
noncomputable def travS3 (x : EntV) (s : EnvP × (WorkerV MV) × (WorkerV MV) × (WorkerV MV) × (ClientV MV) × EngT × Unit) : Option (EnvP × (WorkerV MV) × (WorkerV MV) × (WorkerV MV) × (ClientV MV) × EngT × Unit) :=
 (travKind3 [x] (0, s) ((s.1.m.count, ()), (s.1.m, ()))).bind fun z => travTail s.1.m.count z.1 z.2.2.2.2.2.1 fun e g => some (e, z.2.1, z.2.2.1, z.2.2.2.1, z.2.2.2.2.1, g, ())
theorem kindAt3 (l : List EntV) (i : Int) (s : EnvP × (WorkerV MV) × (WorkerV MV) × (WorkerV MV) × (ClientV MV) × EngT × Unit) (r : (Int × Unit) × (MemV × Unit)) : travKind3 l (i, s) r = travKind3 [atK5 l i] (0, s) r := by kernel_rfl
theorem bodyAt3 (l : List EntV) (self : TravT3 → Option TravT3) (i : Int) (s : EnvP × (WorkerV MV) × (WorkerV MV) × (WorkerV MV) × (ClientV MV) × EngT × Unit) (hl : l.length ≤ 1000000) (h0 : 0 ≤ i) (h1 : i ≤ (l.length : Int)) : travBody3 l self (i, s) = if i < (l.length : Int) then (travS3 (atK5 l i) s).bind fun s' => self (i + 1, s') else some (i, s) := by
  have e1 : wi (i + 1) = i + 1 := wi_id (rg_lit (by omega))
  by_cases h : i < (l.length : Int)
  · unfold travBody3 travS3
    simp only
    rw [if_pos h, if_pos ⟨h0, h⟩, if_pos h, count_eq, bnd, kindAt3, Option.bind_assoc, e1]
    congr 1
    funext z
    rw [travTail_bind]
    rfl
  · unfold travBody3
    simp only
    rw [if_neg h, if_neg h]
theorem goAt3 (l : List EntV) (self : TravT3 → Option TravT3) (i : Int) (s : EnvP × (WorkerV MV) × (WorkerV MV) × (WorkerV MV) × (ClientV MV) × EngT × Unit) (hl : l.length ≤ 1000000) (h0 : 0 ≤ i) (h : i < (l.length : Int)) : playGo3 l self (i, s) = (travS3 (atK5 l i) s).bind fun s' => self (i + 1, s') := by
  have e1 : wi (i + 1) = i + 1 := wi_id (rg_lit (by omega))
  unfold playGo3 travS3
  simp only
  rw [if_pos ⟨h0, h⟩, count_eq, bnd, kindAt3, Option.bind_assoc, e1]
  congr 1
  funext z
  rw [travTail_bind]
  rfl
def inv3 (c : Cfg) (K : Nat) (s : EnvP × (WorkerV MV) × (WorkerV MV) × (WorkerV MV) × (ClientV MV) × EngT × Unit) : Prop := EI c K s.1 ∧ WI c K 0 s.2.1 ∧ WI c K 1 s.2.2.1 ∧ WI c K 2 s.2.2.2.1 ∧ CI c s.2.2.2.2.1 ∧ s.2.2.2.2.2.1.2.1.length ≤ K
theorem travS3_good {c : Cfg} {K : Nat} {x : EntV} {s : EnvP × (WorkerV MV) × (WorkerV MV) × (WorkerV MV) × (ClientV MV) × EngT × Unit} (hK : 1 ≤ K ∧ K ≤ 1000000) (hs : c.subs.length ≤ 1000000) (h : inv3 c K s) : Good (travS3 x s) (inv3 c (K + 3)) := by
  obtain ⟨env, w0, w1, w2, cl, eng, ⟨⟩⟩ := s
  obtain ⟨h, h0, h1, h2, hc, hg⟩ := h
  simp only at h h0 h1 h2 hc hg
  unfold travS3
  refine (tkind3_good (i := 0) (l := [x]) (eng := eng) h hK hs h0 h1 h2 hc).bind fun z hz => ?_
  obtain ⟨ze, z0, z1, z2, zc, zg, ⟨⟩⟩ := z
  obtain ⟨a3, b0, b1, b2, ac, ag⟩ := hz
  simp only at a3 b0 b1 b2 ac ag
  subst ag
  exact ttail_good (N := K + 3) a3.ok.ev (by show zg.2.1.length ≤ _; omega) (by omega) fun eng' he => .some_ ⟨a3, b0, b1, b2, ac, he⟩
theorem doneK3_ex (env : EnvP) (w0 : WorkerV MV) (w1 : WorkerV MV) (w2 : WorkerV MV) (cl : ClientV MV) (ht : env.c.tasks ≤ 1000000) : ∃ b : Bool, ∀ {α : Type} (K : Bool → EnvP → WorkerV MV → WorkerV MV → WorkerV MV → ClientV MV → Option α), doneK3 env w0 w1 w2 cl K = K b env w0 w1 w2 cl := by
  obtain ⟨a, ea⟩ := cstat cl
  obtain ⟨a0, e0⟩ := wstat w0
  obtain ⟨a1, e1⟩ := wstat w1
  obtain ⟨a2, e2⟩ := wstat w2
  obtain ⟨b, hb⟩ := doneL_ex env.l env.c.tasks ht env.m
  by_cases h : a ≠ 4
  · exact ⟨false, fun K => by unfold doneK3; rw [ea, bnd, if_pos h]⟩
  · by_cases h0 : a0 = 2
    · exact ⟨false, fun K => by unfold doneK3; rw [ea, bnd, if_neg h, e0, bnd, if_pos h0]⟩
    · by_cases h1 : a1 = 2
      · exact ⟨false, fun K => by unfold doneK3; rw [ea, bnd, if_neg h, e0, bnd, if_neg h0, e1, bnd, if_pos h1]⟩
      · by_cases h2 : a2 = 2
        · exact ⟨false, fun K => by unfold doneK3; rw [ea, bnd, if_neg h, e0, bnd, if_neg h0, e1, bnd, if_neg h1, e2, bnd, if_pos h2]⟩
        · exact ⟨b, fun K => by unfold doneK3; rw [ea, bnd, if_neg h, e0, bnd, if_neg h0, e1, bnd, if_neg h1, e2, bnd, if_neg h2, gL_eq]; exact hb _⟩
open Classical in
noncomputable def dn3 (s : EnvP × (WorkerV MV) × (WorkerV MV) × (WorkerV MV) × (ClientV MV) × EngT × Unit) : Bool := if ht : s.1.c.tasks ≤ 1000000 then Classical.choose (doneK3_ex s.1 s.2.1 s.2.2.1 s.2.2.2.1 s.2.2.2.2.1 ht) else false
theorem dn3_eq (s : EnvP × (WorkerV MV) × (WorkerV MV) × (WorkerV MV) × (ClientV MV) × EngT × Unit) (ht : s.1.c.tasks ≤ 1000000) {α : Type} (K : Bool → EnvP → WorkerV MV → WorkerV MV → WorkerV MV → ClientV MV → Option α) : doneK3 s.1 s.2.1 s.2.2.1 s.2.2.2.1 s.2.2.2.2.1 K = K (dn3 s) s.1 s.2.1 s.2.2.1 s.2.2.2.1 s.2.2.2.2.1 := by
  unfold dn3
  rw [dif_pos ht]
  exact Classical.choose_spec (doneK3_ex s.1 s.2.1 s.2.2.1 s.2.2.2.1 s.2.2.2.2.1 ht) K
theorem playAt3 {c : Cfg} (hc : c.tasks ≤ 1000000) (l : List EntV) (self : TravT3 → Option TravT3) (i : Int) (s : EnvP × (WorkerV MV) × (WorkerV MV) × (WorkerV MV) × (ClientV MV) × EngT × Unit) (hl : l.length ≤ 1000000) (h0 : 0 ≤ i) (h1 : i ≤ (l.length : Int)) (hi : ∃ K, K ≤ 1000000 ∧ inv3 c K s) : playBody3 l self (i, s) = if i < (l.length : Int) then (if dn3 s = true then some (i, s) else (travS3 (atK5 l i) s).bind fun s' => self (i + 1, s')) else some (i, s) := by
  obtain ⟨K, _, hi⟩ := hi
  have ht : s.1.c.tasks ≤ 1000000 := by rw [hi.1.c]; exact hc
  by_cases h : i < (l.length : Int)
  · unfold playBody3
    simp only
    rw [if_pos h, if_pos h, dn3_eq s ht]
    by_cases hd : dn3 s = true
    · rw [if_pos hd]
      simp only [hd]
    · rw [if_neg hd]
      have hd : dn3 s = false := by revert hd; cases dn3 s <;> simp
      simp only [hd]
      exact goAt3 l self i s hl h0 h
  · unfold playBody3
    simp only
    rw [if_neg h, if_neg h]
theorem bounds3_good {y0 y1 : List Int} {o : (Cfg × Unit) × Unit} (e : kconfig y0 = some o) (ho : DecOk o.1.1) (hw : o.1.1.workers = (((3 : Nat) : Int))) (hy : y1.length ≤ 1000000) : Good (worksteallaw31BoundRounds3 y0 y1) fun r => r.1.1 = true := by
  obtain ⟨⟨c, ⟨⟩⟩, ⟨⟩⟩ := o
  simp only at ho hw
  unfold worksteallaw31BoundRounds3
  refine (short_good y0 [y1] (show 1 ≤ 1000000 by decide)).bind fun r _ => Good.ite (fun _ => .some_ rfl) fun _ => ?_
  rw [e, bnd]
  have hwk := ho.w
  obtain ⟨⟨⟨l, ⟨⟩⟩, ⟨⟩⟩, es, hs⟩ := steady_len (c := c) (l := y1) hy hwk
  have hs : l.length ≤ 24200 := hs
  rw [es, bnd]
  have htk := ho.t
  have hsn := ho.sn
  have hwi : wi (c.workers + 1) = c.workers + 1 := wi_id (rg_lit (by omega))
  obtain ⟨m, s1, p1, p2, p3, p4, p5, p6⟩ := play_lp (D := dn3) (I := inv3 c) (playAt3 (c := c) (by omega)) (fun K x s h1 h2 hi => travS3_good ⟨h1, h2⟩ (by omega) hi) (l := l) (by omega) 18446744073709551616 0 (envV c, workC (layV c) 0 ⟨0, 0, 0, 0, .top⟩, workC (layV c) 1 ⟨0, 0, 0, 0, .top⟩, workC (layV c) 2 ⟨0, 0, 0, 0, .top⟩, clieC c.subs c.workers ⟨0, 0, false, .n1⟩, (0, [], 0, 0, 0, 0, ()), ()) (Int.le_refl 0) (by omega) (by omega) ⟨ei_new ho, wi_new, wi_new, wi_new, ci_ok, Nat.zero_le _⟩
  have hm : 0 ≤ m ∧ m ≤ (l.length : Int) := ⟨p2, p3⟩
  have ht1 : s1.1.c.tasks ≤ 1000000 := by rw [p5.1.c]; omega
  have hl1 : (l.take m.toNat).length ≤ 1000000 := by rw [List.length_take]; omega
  have er : roundsK (l.take m.toNat) (c.workers + 1) = some ((roundsV (l.take m.toNat) (c.workers + 1), ()), ()) := by unfold roundsK; rw [if_pos hl1, if_pos (by omega)]
  have eP : boundPlay3 c l = some ((m, roundsV (l.take m.toNat) (c.workers + 1), dn3 s1, ()), ()) := by
    unfold boundPlay3
    rw [new_eq (dec_valid ho), bnd, if_neg (fun h => h rfl), ci_new ho, bnd, if_pos hw, wk_new (l := layV c) (j := 0), bnd, wk_new (l := layV c) (j := 1), bnd, wk_new (l := layV c) (j := 2), bnd, p1, bnd, if_pos hm, machines_eq, bnd]
    simp only
    rw [hwi, er, bnd, dn3_eq s1 ht1]
  rw [eP, bnd, awakeB_eq, bnd, if_neg (by decide), if_neg (show ¬ m < 0 by omega), if_neg (show ¬ ((l.length : Nat) : Int) < m by omega), if_pos hm]
  have eT : lpF (travBody3 (l.take m.toNat)) 18446744073709551616 (0, envV c, workC (layV c) 0 ⟨0, 0, 0, 0, .top⟩, workC (layV c) 1 ⟨0, 0, 0, 0, .top⟩, workC (layV c) 2 ⟨0, 0, 0, 0, .top⟩, clieC c.subs c.workers ⟨0, 0, false, .n1⟩, (0, [], 0, 0, 0, 0, ()), ()) = some (((l.take m.toNat).length : Int), s1) := by
    rw [run_lp (step := travS3) bodyAt3 hl1 _ 0 _ (Int.le_refl 0) (by omega) (by omega)]
    have p4 : runF travS3 (l.take m.toNat) (envV c, workC (layV c) 0 ⟨0, 0, 0, 0, .top⟩, workC (layV c) 1 ⟨0, 0, 0, 0, .top⟩, workC (layV c) 2 ⟨0, 0, 0, 0, .top⟩, clieC c.subs c.workers ⟨0, 0, false, .n1⟩, (0, [], 0, 0, 0, 0, ()), ()) = some s1 := by
      have h5 : (m - 0).toNat = m.toNat := by omega
      rw [h5] at p4
      exact p4
    show (runF travS3 (l.take m.toNat) (envV c, workC (layV c) 0 ⟨0, 0, 0, 0, .top⟩, workC (layV c) 1 ⟨0, 0, 0, 0, .top⟩, workC (layV c) 2 ⟨0, 0, 0, 0, .top⟩, clieC c.subs c.workers ⟨0, 0, false, .n1⟩, (0, [], 0, 0, 0, 0, ()), ())).bind _ = _
    rw [p4]
    rfl
  rw [new_eq (dec_valid ho), bnd, if_neg (fun h => h rfl), ci_new ho, bnd, if_pos hw, wk_new (l := layV c) (j := 0), bnd, wk_new (l := layV c) (j := 1), bnd, wk_new (l := layV c) (j := 2), bnd, eT, bnd, dn3_eq s1 ht1]
  unfold bndEnd
  rw [if_pos rfl, if_pos hm, hwi, er, bnd, if_pos rfl]
  by_cases hd : dn3 s1 = true
  · rw [if_pos hd]; exact .some_ rfl
  · rw [if_neg hd]
    refine .some_ ?_
    exact decide_eq_true (p6.resolve_right hd)
theorem tkind4_good {c : Cfg} {K : Nat} {env : EnvP} {w0 w1 w2 w3 : WorkerV MV} {cl : ClientV MV} {eng : EngT} {i : Int} {l : List EntV} (h : EI c K env) (hK : 1 ≤ K ∧ K ≤ 1000000) (hs : c.subs.length ≤ 1000000) (h0 : WI c K 0 w0) (h1 : WI c K 1 w1) (h2 : WI c K 2 w2) (h3 : WI c K 3 w3) (hc : CI c cl) :
    Good (travKind4 l (i, env, w0, w1, w2, w3, cl, eng, ()) ((env.m.count, ()), (env.m, ()))) fun z => EI c (K + 3) z.1 ∧ WI c (K + 3) 0 z.2.1 ∧ WI c (K + 3) 1 z.2.2.1 ∧ WI c (K + 3) 2 z.2.2.2.1 ∧ WI c (K + 3) 3 z.2.2.2.2.1 ∧ CI c z.2.2.2.2.2.1 ∧ z.2.2.2.2.2.2.1 = eng := by
  unfold travKind4
  refine Good.ite (fun hk => ?_) fun hk => Good.ite (fun _ => ?_) fun _ => Good.ite (fun _ => ?_) fun _ => ?_
  · refine (mach_good (n := 5) (by decide) hk).bind fun o ho => ?_
    refine Good.ite (fun _ => ?_) fun n4 => Good.ite (fun _ => ?_) fun n3 => Good.ite (fun _ => ?_) fun n2 => Good.ite (fun _ => ?_) fun n1 => Good.ite (fun _ => ?_) fun n0 => ?_
    · exact (ci_step h hK hs hc).bind fun o ho => .some_ ⟨ho.2.1, h0.up (by omega), h1.up (by omega), h2.up (by omega), h3.up (by omega), ho.2.2, rfl⟩
    · exact (wi_step h hK h3).bind fun o ho => .some_ ⟨ho.2.1, h0.up (by omega), h1.up (by omega), h2.up (by omega), ho.2.2, hc, rfl⟩
    · exact (wi_step h hK h2).bind fun o ho => .some_ ⟨ho.2.1, h0.up (by omega), h1.up (by omega), ho.2.2, h3.up (by omega), hc, rfl⟩
    · exact (wi_step h hK h1).bind fun o ho => .some_ ⟨ho.2.1, h0.up (by omega), ho.2.2, h2.up (by omega), h3.up (by omega), hc, rfl⟩
    · exact (wi_step h hK h0).bind fun o ho => .some_ ⟨ho.2.1, ho.2.2, h1.up (by omega), h2.up (by omega), h3.up (by omega), hc, rfl⟩
    · exfalso; have m0 : ¬ o.1.1 = ((0 : Nat) : Int) := n0; have m1 : ¬ o.1.1 = ((1 : Nat) : Int) := n1; have m2 : ¬ o.1.1 = ((2 : Nat) : Int) := n2; have m3 : ¬ o.1.1 = ((3 : Nat) : Int) := n3; have m4 : ¬ o.1.1 = ((4 : Nat) : Int) := n4; omega
  · exact ⟨_, rfl, (EI.clk h).up (by omega), h0.up (by omega), h1.up (by omega), h2.up (by omega), h3.up (by omega), hc, rfl⟩
  · exact ⟨_, rfl, (EI.clk h).up (by omega), h0.up (by omega), h1.up (by omega), h2.up (by omega), h3.up (by omega), hc, rfl⟩
  · exact ⟨_, rfl, h.up (by omega), h0.up (by omega), h1.up (by omega), h2.up (by omega), h3.up (by omega), hc, rfl⟩
noncomputable def travS4 (x : EntV) (s : EnvP × (WorkerV MV) × (WorkerV MV) × (WorkerV MV) × (WorkerV MV) × (ClientV MV) × EngT × Unit) : Option (EnvP × (WorkerV MV) × (WorkerV MV) × (WorkerV MV) × (WorkerV MV) × (ClientV MV) × EngT × Unit) :=
 (travKind4 [x] (0, s) ((s.1.m.count, ()), (s.1.m, ()))).bind fun z => travTail s.1.m.count z.1 z.2.2.2.2.2.2.1 fun e g => some (e, z.2.1, z.2.2.1, z.2.2.2.1, z.2.2.2.2.1, z.2.2.2.2.2.1, g, ())
theorem kindAt4 (l : List EntV) (i : Int) (s : EnvP × (WorkerV MV) × (WorkerV MV) × (WorkerV MV) × (WorkerV MV) × (ClientV MV) × EngT × Unit) (r : (Int × Unit) × (MemV × Unit)) : travKind4 l (i, s) r = travKind4 [atK5 l i] (0, s) r := by kernel_rfl
theorem bodyAt4 (l : List EntV) (self : TravT4 → Option TravT4) (i : Int) (s : EnvP × (WorkerV MV) × (WorkerV MV) × (WorkerV MV) × (WorkerV MV) × (ClientV MV) × EngT × Unit) (hl : l.length ≤ 1000000) (h0 : 0 ≤ i) (h1 : i ≤ (l.length : Int)) : travBody4 l self (i, s) = if i < (l.length : Int) then (travS4 (atK5 l i) s).bind fun s' => self (i + 1, s') else some (i, s) := by
  have e1 : wi (i + 1) = i + 1 := wi_id (rg_lit (by omega))
  by_cases h : i < (l.length : Int)
  · unfold travBody4 travS4
    simp only
    rw [if_pos h, if_pos ⟨h0, h⟩, if_pos h, count_eq, bnd, kindAt4, Option.bind_assoc, e1]
    congr 1
    funext z
    rw [travTail_bind]
    rfl
  · unfold travBody4
    simp only
    rw [if_neg h, if_neg h]
theorem goAt4 (l : List EntV) (self : TravT4 → Option TravT4) (i : Int) (s : EnvP × (WorkerV MV) × (WorkerV MV) × (WorkerV MV) × (WorkerV MV) × (ClientV MV) × EngT × Unit) (hl : l.length ≤ 1000000) (h0 : 0 ≤ i) (h : i < (l.length : Int)) : playGo4 l self (i, s) = (travS4 (atK5 l i) s).bind fun s' => self (i + 1, s') := by
  have e1 : wi (i + 1) = i + 1 := wi_id (rg_lit (by omega))
  unfold playGo4 travS4
  simp only
  rw [if_pos ⟨h0, h⟩, count_eq, bnd, kindAt4, Option.bind_assoc, e1]
  congr 1
  funext z
  rw [travTail_bind]
  rfl
def inv4 (c : Cfg) (K : Nat) (s : EnvP × (WorkerV MV) × (WorkerV MV) × (WorkerV MV) × (WorkerV MV) × (ClientV MV) × EngT × Unit) : Prop := EI c K s.1 ∧ WI c K 0 s.2.1 ∧ WI c K 1 s.2.2.1 ∧ WI c K 2 s.2.2.2.1 ∧ WI c K 3 s.2.2.2.2.1 ∧ CI c s.2.2.2.2.2.1 ∧ s.2.2.2.2.2.2.1.2.1.length ≤ K
theorem travS4_good {c : Cfg} {K : Nat} {x : EntV} {s : EnvP × (WorkerV MV) × (WorkerV MV) × (WorkerV MV) × (WorkerV MV) × (ClientV MV) × EngT × Unit} (hK : 1 ≤ K ∧ K ≤ 1000000) (hs : c.subs.length ≤ 1000000) (h : inv4 c K s) : Good (travS4 x s) (inv4 c (K + 3)) := by
  obtain ⟨env, w0, w1, w2, w3, cl, eng, ⟨⟩⟩ := s
  obtain ⟨h, h0, h1, h2, h3, hc, hg⟩ := h
  simp only at h h0 h1 h2 h3 hc hg
  unfold travS4
  refine (tkind4_good (i := 0) (l := [x]) (eng := eng) h hK hs h0 h1 h2 h3 hc).bind fun z hz => ?_
  obtain ⟨ze, z0, z1, z2, z3, zc, zg, ⟨⟩⟩ := z
  obtain ⟨a3, b0, b1, b2, b3, ac, ag⟩ := hz
  simp only at a3 b0 b1 b2 b3 ac ag
  subst ag
  exact ttail_good (N := K + 3) a3.ok.ev (by show zg.2.1.length ≤ _; omega) (by omega) fun eng' he => .some_ ⟨a3, b0, b1, b2, b3, ac, he⟩
theorem doneK4_ex (env : EnvP) (w0 : WorkerV MV) (w1 : WorkerV MV) (w2 : WorkerV MV) (w3 : WorkerV MV) (cl : ClientV MV) (ht : env.c.tasks ≤ 1000000) : ∃ b : Bool, ∀ {α : Type} (K : Bool → EnvP → WorkerV MV → WorkerV MV → WorkerV MV → WorkerV MV → ClientV MV → Option α), doneK4 env w0 w1 w2 w3 cl K = K b env w0 w1 w2 w3 cl := by
  obtain ⟨a, ea⟩ := cstat cl
  obtain ⟨a0, e0⟩ := wstat w0
  obtain ⟨a1, e1⟩ := wstat w1
  obtain ⟨a2, e2⟩ := wstat w2
  obtain ⟨a3, e3⟩ := wstat w3
  obtain ⟨b, hb⟩ := doneL_ex env.l env.c.tasks ht env.m
  by_cases h : a ≠ 4
  · exact ⟨false, fun K => by unfold doneK4; rw [ea, bnd, if_pos h]⟩
  · by_cases h0 : a0 = 2
    · exact ⟨false, fun K => by unfold doneK4; rw [ea, bnd, if_neg h, e0, bnd, if_pos h0]⟩
    · by_cases h1 : a1 = 2
      · exact ⟨false, fun K => by unfold doneK4; rw [ea, bnd, if_neg h, e0, bnd, if_neg h0, e1, bnd, if_pos h1]⟩
      · by_cases h2 : a2 = 2
        · exact ⟨false, fun K => by unfold doneK4; rw [ea, bnd, if_neg h, e0, bnd, if_neg h0, e1, bnd, if_neg h1, e2, bnd, if_pos h2]⟩
        · by_cases h3 : a3 = 2
          · exact ⟨false, fun K => by unfold doneK4; rw [ea, bnd, if_neg h, e0, bnd, if_neg h0, e1, bnd, if_neg h1, e2, bnd, if_neg h2, e3, bnd, if_pos h3]⟩
          · exact ⟨b, fun K => by unfold doneK4; rw [ea, bnd, if_neg h, e0, bnd, if_neg h0, e1, bnd, if_neg h1, e2, bnd, if_neg h2, e3, bnd, if_neg h3, gL_eq]; exact hb _⟩
open Classical in
noncomputable def dn4 (s : EnvP × (WorkerV MV) × (WorkerV MV) × (WorkerV MV) × (WorkerV MV) × (ClientV MV) × EngT × Unit) : Bool := if ht : s.1.c.tasks ≤ 1000000 then Classical.choose (doneK4_ex s.1 s.2.1 s.2.2.1 s.2.2.2.1 s.2.2.2.2.1 s.2.2.2.2.2.1 ht) else false
theorem dn4_eq (s : EnvP × (WorkerV MV) × (WorkerV MV) × (WorkerV MV) × (WorkerV MV) × (ClientV MV) × EngT × Unit) (ht : s.1.c.tasks ≤ 1000000) {α : Type} (K : Bool → EnvP → WorkerV MV → WorkerV MV → WorkerV MV → WorkerV MV → ClientV MV → Option α) : doneK4 s.1 s.2.1 s.2.2.1 s.2.2.2.1 s.2.2.2.2.1 s.2.2.2.2.2.1 K = K (dn4 s) s.1 s.2.1 s.2.2.1 s.2.2.2.1 s.2.2.2.2.1 s.2.2.2.2.2.1 := by
  unfold dn4
  rw [dif_pos ht]
  exact Classical.choose_spec (doneK4_ex s.1 s.2.1 s.2.2.1 s.2.2.2.1 s.2.2.2.2.1 s.2.2.2.2.2.1 ht) K
theorem playAt4 {c : Cfg} (hc : c.tasks ≤ 1000000) (l : List EntV) (self : TravT4 → Option TravT4) (i : Int) (s : EnvP × (WorkerV MV) × (WorkerV MV) × (WorkerV MV) × (WorkerV MV) × (ClientV MV) × EngT × Unit) (hl : l.length ≤ 1000000) (h0 : 0 ≤ i) (h1 : i ≤ (l.length : Int)) (hi : ∃ K, K ≤ 1000000 ∧ inv4 c K s) : playBody4 l self (i, s) = if i < (l.length : Int) then (if dn4 s = true then some (i, s) else (travS4 (atK5 l i) s).bind fun s' => self (i + 1, s')) else some (i, s) := by
  obtain ⟨K, _, hi⟩ := hi
  have ht : s.1.c.tasks ≤ 1000000 := by rw [hi.1.c]; exact hc
  by_cases h : i < (l.length : Int)
  · unfold playBody4
    simp only
    rw [if_pos h, if_pos h, dn4_eq s ht]
    by_cases hd : dn4 s = true
    · rw [if_pos hd]
      simp only [hd]
    · rw [if_neg hd]
      have hd : dn4 s = false := by revert hd; cases dn4 s <;> simp
      simp only [hd]
      exact goAt4 l self i s hl h0 h
  · unfold playBody4
    simp only
    rw [if_neg h, if_neg h]
theorem bounds4_good {y0 y1 : List Int} {o : (Cfg × Unit) × Unit} (e : kconfig y0 = some o) (ho : DecOk o.1.1) (hw : o.1.1.workers = (((4 : Nat) : Int))) (hy : y1.length ≤ 1000000) : Good (worksteallaw31BoundRounds4 y0 y1) fun r => r.1.1 = true := by
  obtain ⟨⟨c, ⟨⟩⟩, ⟨⟩⟩ := o
  simp only at ho hw
  unfold worksteallaw31BoundRounds4
  refine (short_good y0 [y1] (show 1 ≤ 1000000 by decide)).bind fun r _ => Good.ite (fun _ => .some_ rfl) fun _ => ?_
  rw [e, bnd]
  have hwk := ho.w
  obtain ⟨⟨⟨l, ⟨⟩⟩, ⟨⟩⟩, es, hs⟩ := steady_len (c := c) (l := y1) hy hwk
  have hs : l.length ≤ 24200 := hs
  rw [es, bnd]
  have htk := ho.t
  have hsn := ho.sn
  have hwi : wi (c.workers + 1) = c.workers + 1 := wi_id (rg_lit (by omega))
  obtain ⟨m, s1, p1, p2, p3, p4, p5, p6⟩ := play_lp (D := dn4) (I := inv4 c) (playAt4 (c := c) (by omega)) (fun K x s h1 h2 hi => travS4_good ⟨h1, h2⟩ (by omega) hi) (l := l) (by omega) 18446744073709551616 0 (envV c, workC (layV c) 0 ⟨0, 0, 0, 0, .top⟩, workC (layV c) 1 ⟨0, 0, 0, 0, .top⟩, workC (layV c) 2 ⟨0, 0, 0, 0, .top⟩, workC (layV c) 3 ⟨0, 0, 0, 0, .top⟩, clieC c.subs c.workers ⟨0, 0, false, .n1⟩, (0, [], 0, 0, 0, 0, ()), ()) (Int.le_refl 0) (by omega) (by omega) ⟨ei_new ho, wi_new, wi_new, wi_new, wi_new, ci_ok, Nat.zero_le _⟩
  have hm : 0 ≤ m ∧ m ≤ (l.length : Int) := ⟨p2, p3⟩
  have ht1 : s1.1.c.tasks ≤ 1000000 := by rw [p5.1.c]; omega
  have hl1 : (l.take m.toNat).length ≤ 1000000 := by rw [List.length_take]; omega
  have er : roundsK (l.take m.toNat) (c.workers + 1) = some ((roundsV (l.take m.toNat) (c.workers + 1), ()), ()) := by unfold roundsK; rw [if_pos hl1, if_pos (by omega)]
  have eP : boundPlay4 c l = some ((m, roundsV (l.take m.toNat) (c.workers + 1), dn4 s1, ()), ()) := by
    unfold boundPlay4
    rw [new_eq (dec_valid ho), bnd, if_neg (fun h => h rfl), ci_new ho, bnd, if_pos hw, wk_new (l := layV c) (j := 0), bnd, wk_new (l := layV c) (j := 1), bnd, wk_new (l := layV c) (j := 2), bnd, wk_new (l := layV c) (j := 3), bnd, p1, bnd, if_pos hm, machines_eq, bnd]
    simp only
    rw [hwi, er, bnd, dn4_eq s1 ht1]
  rw [eP, bnd, awakeB_eq, bnd, if_neg (by decide), if_neg (show ¬ m < 0 by omega), if_neg (show ¬ ((l.length : Nat) : Int) < m by omega), if_pos hm]
  have eT : lpF (travBody4 (l.take m.toNat)) 18446744073709551616 (0, envV c, workC (layV c) 0 ⟨0, 0, 0, 0, .top⟩, workC (layV c) 1 ⟨0, 0, 0, 0, .top⟩, workC (layV c) 2 ⟨0, 0, 0, 0, .top⟩, workC (layV c) 3 ⟨0, 0, 0, 0, .top⟩, clieC c.subs c.workers ⟨0, 0, false, .n1⟩, (0, [], 0, 0, 0, 0, ()), ()) = some (((l.take m.toNat).length : Int), s1) := by
    rw [run_lp (step := travS4) bodyAt4 hl1 _ 0 _ (Int.le_refl 0) (by omega) (by omega)]
    have p4 : runF travS4 (l.take m.toNat) (envV c, workC (layV c) 0 ⟨0, 0, 0, 0, .top⟩, workC (layV c) 1 ⟨0, 0, 0, 0, .top⟩, workC (layV c) 2 ⟨0, 0, 0, 0, .top⟩, workC (layV c) 3 ⟨0, 0, 0, 0, .top⟩, clieC c.subs c.workers ⟨0, 0, false, .n1⟩, (0, [], 0, 0, 0, 0, ()), ()) = some s1 := by
      have h5 : (m - 0).toNat = m.toNat := by omega
      rw [h5] at p4
      exact p4
    show (runF travS4 (l.take m.toNat) (envV c, workC (layV c) 0 ⟨0, 0, 0, 0, .top⟩, workC (layV c) 1 ⟨0, 0, 0, 0, .top⟩, workC (layV c) 2 ⟨0, 0, 0, 0, .top⟩, workC (layV c) 3 ⟨0, 0, 0, 0, .top⟩, clieC c.subs c.workers ⟨0, 0, false, .n1⟩, (0, [], 0, 0, 0, 0, ()), ())).bind _ = _
    rw [p4]
    rfl
  rw [new_eq (dec_valid ho), bnd, if_neg (fun h => h rfl), ci_new ho, bnd, if_pos hw, wk_new (l := layV c) (j := 0), bnd, wk_new (l := layV c) (j := 1), bnd, wk_new (l := layV c) (j := 2), bnd, wk_new (l := layV c) (j := 3), bnd, eT, bnd, dn4_eq s1 ht1]
  unfold bndEnd
  rw [if_pos rfl, if_pos hm, hwi, er, bnd, if_pos rfl]
  by_cases hd : dn4 s1 = true
  · rw [if_pos hd]; exact .some_ rfl
  · rw [if_neg hd]
    refine .some_ ?_
    exact decide_eq_true (p6.resolve_right hd)
theorem bounds_any {y0 y1 : List Int} (hb : ∀ x ∈ y0, 0 ≤ x ∧ x ≤ 255) :
    Good (worksteallaw31BoundRounds1 y0 y1) (fun r => r.1.1 = true) ∨ Good (worksteallaw31BoundRounds2 y0 y1) (fun r => r.1.1 = true) ∨ Good (worksteallaw31BoundRounds3 y0 y1) (fun r => r.1.1 = true) ∨ Good (worksteallaw31BoundRounds4 y0 y1) (fun r => r.1.1 = true) := by
  by_cases hl : y0.length ≤ 400 ∧ y1.length ≤ 400
  · obtain ⟨o, e, ho⟩ := config_good hb (by omega)
    have hw := ho.w
    have hv : o.1.1.workers = ((1 : Nat) : Int) ∨ o.1.1.workers = ((2 : Nat) : Int) ∨ o.1.1.workers = ((3 : Nat) : Int) ∨ o.1.1.workers = ((4 : Nat) : Int) := by omega
    rcases hv with h | h | h | h
    · exact .inl (bounds1_good e ho h (by omega))
    · exact .inr (.inl (bounds2_good e ho h (by omega)))
    · exact .inr (.inr (.inl (bounds3_good e ho h (by omega))))
    · exact .inr (.inr (.inr (bounds4_good e ho h (by omega))))
  · refine .inl ?_
    unfold worksteallaw31BoundRounds1
    refine (short_good y0 [y1] (show 1 ≤ 1000000 by decide)).bind fun r hr => Good.ite (fun _ => .some_ rfl) fun h => ?_
    exfalso
    have h1 : r.1.1 = true := by revert h; cases r.1.1 <;> simp
    exact hl ⟨(hr h1).1, (hr h1).2 y1 (List.mem_singleton.2 rfl)⟩
end Go.Proofs.YtgiagoeoifgliaaGreat
