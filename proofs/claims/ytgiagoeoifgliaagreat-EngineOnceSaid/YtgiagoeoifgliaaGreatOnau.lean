/- The program's environment made anew, at a valid configuration. What is decoded is valid, also with other numbers of tasks and places. The law EngineOnce: what holds between the entries of a script. The law EngineOnce: what Awake answers. The law EngineOnce, for every number of workers. The law EngineOnce, for every input. -/
import Derived.Test.YtgiagoeoifgliaaGreatOnap
import Derived.Test.YtgiagoeoifgliaaGreatOnat
set_option linter.all false
namespace Go.Proofs.YtgiagoeoifgliaaGreat
section
open Go Go.RowKit
set_option maxRecDepth 100000
variable [Tb]
theorem obind {α β : Type} (a : α) (f : α → Option β) : (some a).bind f = f a := rfl
/-- The lengths of a configuration's lists are plain. -/
structure LenOk (c : Cfg) : Prop where
  ps : c.progs.length ≤ 1000000
  pl : ∀ p ∈ c.progs, p.length ≤ 1000000
  ss : c.subs.length ≤ 1000000
theorem progs_len {lv np : Int} : ∀ {ps : List (List Ins)}, progsErr lv np ps = 0 → ∀ p ∈ ps, p.length ≤ 32
  | [], _, p, h => by cases h
  | q :: ps, h, p, hm => by
    unfold progsErr at h
    split at h
    · omega
    · split at h
      · rcases List.mem_cons.1 hm with e | e
        · subst e; omega
        · exact progs_len h p e
      · omega
theorem valid_len {c : Cfg} (h : cfgErr c = 0) : numsOk c = true ∧ c.progs.length ≤ 32 ∧ (∀ p ∈ c.progs, p.length ≤ 32) ∧ c.subs.length ≤ 64 := by
  unfold cfgErr at h
  split at h
  · omega
  · rename_i hn
    split at h
    · omega
    · rename_i hp
      have hp0 : progsAll c = 0 := by omega
      unfold progsAll at hp0
      split at hp0
      · omega
      · rename_i hl
        simp only [inB, Bool.not_eq_true', Bool.and_eq_false_iff, decide_eq_false_iff_not, not_or, Classical.not_not, Bool.not_eq_false, Bool.and_eq_true, decide_eq_true_eq] at hl
        refine ⟨by simpa using hn, by omega, progs_len hp0, ?_⟩
        unfold subsAll at h
        split at h
        · omega
        · omega
theorem LenOk.of {c : Cfg} (h : cfgErr c = 0) : LenOk c := by
  obtain ⟨_, h1, h2, h3⟩ := valid_len h
  exact ⟨by omega, fun p hp => by have := h2 p hp; omega, by omega⟩
abbrev ClS := Int × Int × Int × Int × Int × Int × Int × Int × Int × List (List Ins) × List Sub × Unit
def clS (c : Cfg) : ClS := (c.workers, c.levels, c.classes, c.tasks, c.deque, c.heap, c.batch, c.age, c.patience, c.progs, c.subs, ())
theorem set_sameP {α : Type} {xs : List α} {i : Nat} {x : α} (h : xs[i]? = some x) : xs.set i x = xs := by
  obtain ⟨hlt, rfl⟩ := List.getElem?_eq_some_iff.1 h
  simp
theorem clone_eq {c : Cfg} (h : LenOk c) : configClone c = some ((c, ()), ()) := by
  have hg : Good (configClone c) fun o => o.1.1 = c := by
    unfold configClone
    have e0 : cloneRows c.progs = some ((c.progs, ()), ()) := by unfold cloneRows; rw [if_pos h.ps]
    rw [e0, obind]
    refine Good.bind (P := fun z => z.2.1 = clS c) (lp_good (fun x => x.2.1 = clS c ∧ 0 ≤ x.1 ∧ x.1 ≤ (c.progs.length : Int)) (fun x => ((c.progs.length : Int) - x.1).toNat) (fun self x ⟨q0, q1, q2⟩ ih => ?_) _ _ ⟨rfl, Int.le_refl 0, by show (0 : Int) ≤ _; omega⟩ (by show ((c.progs.length : Int) - 0).toNat < _; have := h.ps; omega)) fun z hz => ?_
    rotate_left
    · obtain ⟨i, s, u⟩ := x
      simp only at q0 q1 q2
      subst q0
      refine Good.ite (fun hlt => ?_) fun _ => .some_ rfl
      have hin : 0 ≤ i ∧ i < ((c.progs.length : Nat) : Int) := ⟨q1, hlt⟩
      refine Good.guard (show 0 ≤ i ∧ i < (((clS c).2.2.2.2.2.2.2.2.2.1.length : Nat) : Int) from hin) fun _ => ?_
      have hm := h.pl _ (at_in (d := (dfR 18 : List Ins)) hin)
      have e1 : cloneIns (atK18 (clS c).2.2.2.2.2.2.2.2.2.1 i) = some ((atK18 c.progs i, ()), ()) := by
        unfold cloneIns; exact if_pos hm
      rw [e1, obind]
      refine Good.guard (show 0 ≤ i ∧ i < (((clS c).2.2.2.2.2.2.2.2.2.1.length : Nat) : Int) from hin) fun _ => ?_
      have e2 : wi (i + 1) = i + 1 := wi_id (rg_lit (by have := h.ps; omega))
      have e3 : c.progs.set i.toNat (atK18 c.progs i) = c.progs := set_sameP (atL_get hin)
      rw [e2]
      refine ih _ ⟨?_, by show 0 ≤ i + 1; omega, by show i + 1 ≤ _; omega⟩ (by show ((c.progs.length : Int) - (i + 1)).toNat < ((c.progs.length : Int) - i).toNat; omega)
      show (c.workers, c.levels, c.classes, c.tasks, c.deque, c.heap, c.batch, c.age, c.patience, c.progs.set i.toNat (atK18 c.progs i), c.subs, ()) = clS c
      rw [e3]; rfl
    · rw [hz]
      have e4 : cloneSubs (clS c).2.2.2.2.2.2.2.2.2.2.1 = some ((c.subs, ()), ()) := by unfold cloneSubs; exact if_pos h.ss
      rw [e4, obind]
      exact .some_ rfl
  obtain ⟨o, e, ho⟩ := hg
  rw [e]
  obtain ⟨⟨o1, ⟨⟩⟩, ⟨⟩⟩ := o
  simp only at ho
  rw [ho]
/-- The layout of a configuration. -/
def layV (c : Cfg) : LayV := { workers := c.workers, levels := c.levels, classes := c.classes, tasks := c.tasks, deque := c.deque, heap := c.heap, sleepers := 4 + c.heap, epochs := 4 + c.heap + c.classes, bitmaps := 4 + c.heap + c.classes + c.workers, queues := 4 + c.heap + c.classes + c.workers + c.workers, table := 4 + c.heap + c.classes + c.workers + c.workers + c.workers * c.levels * (2 + c.deque) }
def cellsN (c : Cfg) : Int := (layV c).table + 5 * c.tasks
theorem mulb {a b A B : Int} (ha : 0 ≤ a) (hA : a ≤ A) (hb : 0 ≤ b) (hB : b ≤ B) : 0 ≤ a * b ∧ a * b ≤ A * B :=
  ⟨Int.mul_nonneg ha hb, Int.le_trans (Int.mul_le_mul_of_nonneg_right hA hb) (Int.mul_le_mul_of_nonneg_left hB (Int.le_trans ha hA))⟩
theorem table_rg {c : Cfg} (h : numsOk c = true) : (0 ≤ c.workers * c.levels ∧ c.workers * c.levels ≤ 1024) ∧ (0 ≤ c.workers * c.levels * (2 + c.deque) ∧ c.workers * c.levels * (2 + c.deque) ≤ 67584) := by
  have hs := numsOk_spec h
  have h1 := mulb (a := c.workers) (b := c.levels) (A := 16) (B := 64) (by omega) (by omega) (by omega) (by omega)
  have h2 := mulb (a := c.workers * c.levels) (b := 2 + c.deque) (A := 1024) (B := 66) h1.1 (by omega) (by omega) (by omega)
  omega
theorem layout_eq {c : Cfg} (h : cfgErr c = 0) : layoutNew c = some ((layV c, 0, ()), ()) := by
  have hn := (valid_len h).1
  have hs := numsOk_spec hn
  have ht := table_rg hn
  unfold layoutNew cfgCheck
  rw [obind]
  have e0 : ¬ cfgErr c ≠ 0 := by omega
  simp only [if_neg e0]
  have e1 : wi (4 + c.heap) = 4 + c.heap := wi_id (rg_lit (by omega))
  have e2 : wi (4 + c.heap + c.classes) = 4 + c.heap + c.classes := wi_id (rg_lit (by omega))
  have e3 : wi (4 + c.heap + c.classes + c.workers) = 4 + c.heap + c.classes + c.workers := wi_id (rg_lit (by omega))
  have e4 : wi (4 + c.heap + c.classes + c.workers + c.workers) = 4 + c.heap + c.classes + c.workers + c.workers := wi_id (rg_lit (by omega))
  have e5 : wi (c.workers * c.levels) = c.workers * c.levels := wi_id (rg_lit (by omega))
  have e6 : wi (2 + c.deque) = 2 + c.deque := wi_id (rg_lit (by omega))
  have e7 : wi (c.workers * c.levels * (2 + c.deque)) = c.workers * c.levels * (2 + c.deque) := wi_id (rg_lit (by omega))
  have e8 : wi (4 + c.heap + c.classes + c.workers + c.workers + c.workers * c.levels * (2 + c.deque)) = 4 + c.heap + c.classes + c.workers + c.workers + c.workers * c.levels * (2 + c.deque) := wi_id (rg_lit (by omega))
  simp only [e1, e2, e3, e4, e5, e6, e7, e8]
  rfl
def rec0 : RecP := ⟨0, -1, 0, 0, -1, [], false⟩
/-- The environment behind New. -/
def envV (c : Cfg) : EnvP := ⟨c, layV c, ⟨List.replicate (cellsN c).toNat 0, ⟨0, 0, 0, 0⟩, 0⟩, ⟨0, 0⟩, List.replicate c.tasks.toNat rec0, []⟩
theorem new_eq {c : Cfg} (h : cfgErr c = 0) : machineNew c = some ((envV c, 0, ()), ()) := by
  have hn := (valid_len h).1
  have hs := numsOk_spec hn
  have ht := table_rg hn
  have hg : Good (machineNew c) fun o => o.1.1 = envV c ∧ o.1.2.1 = 0 := by
    unfold machineNew
    rw [layout_eq h, obind]
    refine Good.ite (fun e => absurd rfl e) fun _ => ?_
    have c1 : wi (5 * c.tasks) = 5 * c.tasks := wi_id (rg_lit (by omega))
    have c2 : wi ((layV c).table + 5 * c.tasks) = cellsN c := wi_id (rg_lit (by unfold layV; simp only; omega))
    have e1 : pCells (layV c) = some ((cellsN c, ()), ()) := by
      unfold pCells
      have : wi (5 * (layV c).tasks) = 5 * c.tasks := c1
      rw [this, c2]
    rw [e1, obind]
    have hc : 0 ≤ cellsN c ∧ cellsN c ≤ 131072 := by unfold cellsN layV; simp only; omega
    have e2 : machineBare (cellsN c) = some ((⟨⟨0, 0, 0, 0, 0, 0, 0, 0, 0, [], []⟩, ⟨0, 0, 0, 0, 0, 0, 0, 0, 0, 0, 0⟩, ⟨List.replicate (cellsN c).toNat 0, ⟨0, 0, 0, 0⟩, 0⟩, ⟨0, 0⟩, [], []⟩, ()), ()) := by
      unfold machineBare memoryNew clockNew
      have i1 : (if cellsN c < 0 then (0 : Int) else cellsN c) = cellsN c := if_neg (by omega)
      have i2 : (if 131072 < cellsN c then (131072 : Int) else cellsN c) = cellsN c := if_neg (by omega)
      have i3 : 0 ≤ cellsN c ∧ cellsN c ≤ 1099511627776 := by omega
      simp only [i1, i2, if_true, if_pos i3, obind]
    rw [e2, obind, clone_eq (.of h), obind]
    simp only [if_true]
    refine Good.bind (P := fun z => z.2.1 = envV c) (lp_good (fun x => 0 ≤ x.1 ∧ x.1 ≤ c.tasks ∧ x.2.1 = { envV c with recs := List.replicate x.1.toNat rec0 }) (fun x => (c.tasks - x.1).toNat) (fun self x ⟨q0, q1, q2⟩ ih => ?_) _ _ ⟨Int.le_refl 0, by show (0 : Int) ≤ _; omega, rfl⟩ (by show (c.tasks - 0).toNat < _; omega)) fun z hz => .some_ ⟨hz, rfl⟩
    obtain ⟨i, e, u⟩ := x
    simp only at q0 q1 q2
    subst q2
    refine Good.ite (fun hlt => ?_) fun hge => .some_ ?_
    · have hl : (List.replicate i.toNat rec0).length = i.toNat := List.length_replicate
      refine Good.guard ?_ fun _ => ?_
      · show (((List.replicate i.toNat rec0).length + 1 : Nat) : Int) < 100000000000
        rw [hl]
        have hlt' : i < c.tasks := hlt
        omega
      · have hlt' : i < c.tasks := hlt
        have e2 : wi (i + 1) = i + 1 := wi_id (rg_lit (by omega))
        rw [e2]
        refine ih _ ⟨by show 0 ≤ i + 1; omega, by show i + 1 ≤ _; omega, ?_⟩ (by show (c.tasks - (i + 1)).toNat < (c.tasks - i).toNat; omega)
        show ({ envV c with recs := List.replicate i.toNat rec0 ++ [rec0] } : EnvP) = { envV c with recs := List.replicate (i + 1).toNat rec0 }
        have e3 : (i + 1).toNat = i.toNat + 1 := by omega
        rw [e3, List.replicate_succ']
    · show ({ envV c with recs := List.replicate i.toNat rec0 } : EnvP) = envV c
      have : i = c.tasks := by have hge' : ¬ i < c.tasks := hge; omega
      rw [this]; rfl
  obtain ⟨o, e, ho1, ho2⟩ := hg
  rw [e]
  obtain ⟨⟨o1, o2, ⟨⟩⟩, ⟨⟩⟩ := o
  simp only at ho1 ho2
  rw [ho1, ho2]
end
section
open Go
variable [Tb]
theorem valid_of {c : Cfg} (h : DecOk c) {t hp' : Int} (ht : 1 ≤ t ∧ t ≤ 12) (hh : 1 ≤ hp' ∧ hp' ≤ 8) : cfgErr { c with tasks := t, heap := hp' } = 0 := by
  have hp : ∀ ps : List (List Ins), (∀ x ∈ ps, x ∈ c.progs) → progsErr c.levels c.progs.length ps = 0 := fun ps => by
    induction ps with
    | nil => intro _; rfl
    | cons p ps ih =>
      intro hm
      have h1 := h.pl p (hm p (List.mem_cons_self ..))
      unfold progsErr
      rw [if_neg (by omega), if_pos]
      · exact ih fun x hx => hm x (List.mem_cons_of_mem _ hx)
      · refine List.all_eq_true.2 fun i hi => ?_
        have h2 := h.ps p (hm p (List.mem_cons_self ..)) i hi
        unfold insOk
        rcases h2 with ⟨a, b, d, e⟩ | ⟨a, b, d, e, f⟩ | ⟨a, b, d, e⟩
        · rw [if_pos a]; simp only [inB, e, Bool.and_eq_true, decide_eq_true_eq, beq_self_eq_true, and_true]; omega
        · rw [if_neg (by omega), if_pos a]; simp only [inB, Bool.and_eq_true, decide_eq_true_eq]; omega
        · rw [if_neg (by omega), if_neg (by omega), if_pos a]; simp only [inB, e, Bool.and_eq_true, decide_eq_true_eq, beq_self_eq_true, and_true]; omega
  have hs : ∀ ss : List Sub, (∀ x ∈ ss, x ∈ c.subs) → subsErr c.levels c.progs.length ss = 0 := fun ss => by
    induction ss with
    | nil => intro _; rfl
    | cons s ss ih =>
      intro hm
      have h1 := h.ss s (hm s (List.mem_cons_self ..))
      have e : subErr c.levels c.progs.length s = 0 := by
        unfold subErr
        have e1 : inB s.prog 0 ((c.progs.length : Int) - 1) = true := by simp only [inB, Bool.and_eq_true, decide_eq_true_eq]; omega
        have e2 : inB s.level 0 (c.levels - 1) = true := by simp only [inB, Bool.and_eq_true, decide_eq_true_eq]; omega
        have e3 : inB s.deadline 0 16777215 = true := by simp only [inB, Bool.and_eq_true, decide_eq_true_eq]; omega
        rw [e1, e2, e3]; rfl
      unfold subsErr
      rw [if_pos e]
      exact ih fun x hx => hm x (List.mem_cons_of_mem _ hx)
  have hn : numsOk { c with tasks := t, heap := hp' } = true := by
    have := h.w; have := h.l; have := h.k; have := h.t; have := h.q; have := h.h; have := h.b; have := h.a; have := h.p
    simp only [numsOk, inB, Bool.and_eq_true, decide_eq_true_eq]
    have e : (if c.levels < 8 then c.levels else 8) = c.levels := if_pos (by omega)
    rw [e]
    omega
  have hpa : progsAll { c with tasks := t, heap := hp' } = 0 := by
    have := h.pn
    unfold progsAll
    have e : inB (c.progs.length : Int) 1 32 = true := by simp only [inB, Bool.and_eq_true, decide_eq_true_eq]; omega
    rw [e]
    exact hp c.progs fun _ hx => hx
  have hsa : subsAll { c with tasks := t, heap := hp' } = 0 := by
    have := h.sn
    unfold subsAll
    rw [if_neg (show ¬ 64 < c.subs.length by omega)]
    exact hs c.subs fun _ hx => hx
  unfold cfgErr
  rw [hn, hpa]
  exact hsa
theorem dec_valid {c : Cfg} (h : DecOk c) : cfgErr c = 0 := by
  have := h.h
  exact valid_of h (t := c.tasks) (hp' := c.heap) h.t (by omega)
theorem config_good {b : List Int} (hb : ∀ x ∈ b, 0 ≤ x ∧ x ≤ 255) (hl : b.length ≤ 1000000) : Good (kconfig b) fun o => DecOk o.1.1 := by
  have := decode_good hb hl
  unfold kconfig
  refine this.bind fun o ho => .some_ ?_
  exact ho
end
section
open Go Go.RowKit
set_option maxRecDepth 100000
variable [Tb]
theorem r4_len {b : List Int} (hb : b.length ≤ 1000000) : Good (r4decode b) fun o => o.1.1.length ≤ 65536 := by
  unfold r4decode
  refine Good.bind (P := fun z => z.1.length ≤ 65536) (lp_good (fun x => 0 ≤ x.2.1 ∧ x.2.1 ≤ (b.length : Int) + 2 ∧ x.1.length ≤ 65536) (fun x => ((b.length : Int) + 2 - x.2.1).toNat) (fun self x ⟨q0, q1, q2⟩ ih => ?_) _ _ ⟨Int.le_refl 0, by show (0 : Int) ≤ (b.length : Int) + 2; omega, Nat.zero_le _⟩ (by show ((b.length : Int) + 2 - 0).toNat < _; omega)) fun z hz => .some_ hz
  have e1 : wi (x.2.1 + 1) = x.2.1 + 1 := wi_id (rg_lit (by omega))
  have e2 : wi (x.2.1 + 2) = x.2.1 + 2 := wi_id (rg_lit (by omega))
  rw [e1, e2]
  refine Good.ite (fun h1 => Good.ite (fun h2 => .guard (by omega) fun _ => .guard (by omega) fun _ => .guard rfl fun _ => .guard rfl fun _ => ?_) fun _ => .some_ q2) fun _ => .some_ q2
  have nx : ∀ u : EntV, Good (self (x.1 ++ [u], x.2.1 + 2, ())) fun z => z.1.length ≤ 65536 := fun u => ih _ ⟨by show 0 ≤ x.2.1 + 2; omega, by show x.2.1 + 2 ≤ (b.length : Int) + 2; omega, by simp; omega⟩ (by show ((b.length : Int) + 2 - (x.2.1 + 2)).toNat < ((b.length : Int) + 2 - x.2.1).toNat; omega)
  refine Good.ite (fun _ => .guard (by simp; omega) fun _ => nx _) fun _ => Good.ite (fun _ => .guard (by simp; omega) fun _ => nx _) fun _ => .guard (by simp; omega) fun _ => nx _
theorem script_len {b : List Int} {n : Int} (hb : b.length ≤ 1000000) (hn : 0 ≤ n) : Good (kscript b n) fun o => o.1.1.length ≤ n.toNat := by
  unfold kscript
  refine (r4_len hb).bind fun r hr => Good.ite (fun h => .guard (by omega) fun _ => .some_ (by show (r.1.1.take n.toNat).length ≤ n.toNat; simp; omega)) fun h => .some_ (by show r.1.1.length ≤ n.toNat; omega)
/-- The environment behind K steps. -/
structure EI (c : Cfg) (K : Nat) (e : EnvP) : Prop where
  ok : EOk K e
  l : e.l = layV c
  c : e.c = c
  ct : 0 ≤ e.m.count ∧ e.m.count ≤ K
  cl : e.m.cells.length ≤ 1000000
def mnC (c : Cfg) : Int := if 16 < c.workers then 16 else c.workers
def WI (c : Cfg) (K : Nat) (j : Int) (w : WorkerV MV) : Prop := ∃ k, w = workC (layV c) j k ∧ WorkOk K (mnC c) k
def CI (c : Cfg) (l : ClientV MV) : Prop := ∃ k, l = clieC c.subs c.workers k ∧ 0 ≤ k.i
section
variable {c : Cfg} {K : Nat} {e : EnvP} {j : Int} {w : WorkerV MV} {l : ClientV MV}
theorem EI.many (h : EI c K e) : manyP e = mnC c := by unfold manyP mnC; rw [h.c]
theorem one_ct {m m' : MemV} (h : One m m') {K : Nat} (hc : 0 ≤ m.count ∧ m.count ≤ K) (hK : K ≤ 1000000) : (0 ≤ m'.count ∧ m'.count ≤ ((K + 3 : Nat) : Int)) ∧ m'.cells.length = m.cells.length := by
  cases h with
  | no => exact ⟨by omega, rfl⟩
  | yes k a v h hk =>
    refine ⟨?_, by simp⟩
    show 0 ≤ wi (m.count + 1) ∧ wi (m.count + 1) ≤ _
    rw [wi_id (rg_lit (by omega))]
    omega
theorem EI.stp (h : EI c K e) (hK : K ≤ 1000000) {e' : EnvP} (s : Stp 2 e e') : EI c (K + 3) e' :=
  have h1 := one_ct s.m h.ct hK
  ⟨h.ok.step s, by rw [s.l]; exact h.l, by rw [s.c]; exact h.c, h1.1, by rw [h1.2]; exact h.cl⟩
theorem WorkOk.up {K L : Nat} (h : K ≤ L) {n : Int} {k : WorkS} (hw : WorkOk K n k) : WorkOk L n k := by
  obtain ⟨a, b, d, f, g⟩ := k
  cases g with
  | t7 s => exact ⟨hw.1, Nat.le_trans hw.2 h⟩
  | t3 s => exact hw
  | t4 s => exact hw
  | _ => trivial
theorem WI.up {K L : Nat} (h : K ≤ L) (hw : WI c K j w) : WI c L j w := by
  obtain ⟨k, h1, h2⟩ := hw
  exact ⟨k, h1, h2.up h⟩
theorem wi_step (h : EI c K e) (hK : 1 ≤ K ∧ K ≤ 1000000) (hw : WI c K j w) : Good (workerWorkerStep w e) fun o => One e.m o.2.2.1.m ∧ EI c (K + 3) o.2.2.1 ∧ WI c (K + 3) j o.2.1 := by
  obtain ⟨k, rfl, hk⟩ := hw
  rw [← h.many] at hk
  have h1 := work_sim (w := j) h.ok (by omega) k hk
  have h2 := work_nx (w := j) h.ok k
  have h3 := work_ok (w := j) h.ok k hk hK.1
  rw [h.many] at h3
  rw [h.l] at h1
  exact ⟨_, h1, h2.m, h.stp hK.2 h2, _, rfl, h3.up (by omega)⟩
theorem ci_step (h : EI c K e) (hK : 1 ≤ K ∧ K ≤ 1000000) (hs : c.subs.length ≤ 1000000) (hc : CI c l) : Good (clientClientStep l e) fun o => One e.m o.2.2.1.m ∧ EI c (K + 3) o.2.2.1 ∧ CI c o.2.1 := by
  obtain ⟨k, rfl, hk⟩ := hc
  have h1 := clie_sim (subs := c.subs) (me := c.workers) h.ok (by omega) k hk
  have h2 := clie_nx (subs := c.subs) (me := c.workers) h.ok k
  have h3 := clie_i (e := e) (subs := c.subs) (me := c.workers) hs k hk
  exact ⟨_, h1, h2.m, h.stp hK.2 h2, _, rfl, h3⟩
theorem EI.up {L : Nat} (h : K ≤ L) (he : EI c K e) : EI c L e := ⟨⟨he.ok.dq, he.ok.tk, he.ok.ct, he.ok.wk, by have := he.ok.ev; omega, fun r hr => by have := he.ok.kd r hr; omega⟩, he.l, he.c, by have := he.ct; omega, he.cl⟩
theorem EI.clk {k : ClkV} (he : EI c K e) : EI c K { e with k := k } := ⟨⟨he.ok.dq, he.ok.tk, he.ok.ct, he.ok.wk, he.ok.ev, he.ok.kd⟩, he.l, he.c, he.ct, he.cl⟩
theorem mach_good {x : EntV} {n : Int} (hn : 1 ≤ n ∧ n ≤ 1000) (h : x.kind = 0) : Good (scriptMachine x n) fun o => 0 ≤ o.1.1 ∧ o.1.1 < n := by
  have h1 : Int.tmod x.value n < n ∧ -n < Int.tmod x.value n := by
    constructor
    · exact Int.tmod_lt_of_pos _ (by omega)
    · have h2 : Int.tmod (-x.value) n < n := Int.tmod_lt_of_pos _ (by omega)
      rw [Int.neg_tmod] at h2
      omega
  unfold scriptMachine
  rw [if_neg (fun h' => h' h), if_neg (by omega), if_pos (by omega)]
  refine Good.ite (fun hl => ?_) fun hl => .some_ ⟨by show 0 ≤ Int.tmod x.value n; omega, h1.1⟩
  rw [wi_id (rg_lit (by omega))]
  exact .some_ ⟨by show 0 ≤ Int.tmod x.value n + n; omega, by show Int.tmod x.value n + n < n; omega⟩
end
theorem ei_new {c : Cfg} (h : DecOk c) : EI c 1 (envV c) := by
  have hn := (valid_len (dec_valid h)).1
  have ht := table_rg hn
  have h1 := h.w
  have h2 := h.l
  have h3 := h.k
  have h4 := h.t
  have h5 := h.q
  have h6 := h.h
  refine ⟨⟨?_, ?_, ?_, ?_, Nat.zero_le _, fun r hr => ?_⟩, rfl, rfl, ⟨Int.le_refl 0, by show (0 : Int) ≤ 1; omega⟩, ?_⟩
  · show 0 ≤ c.deque ∧ c.deque ≤ 65535; omega
  · show c.tasks = ((List.replicate c.tasks.toNat rec0).length : Int)
    rw [List.length_replicate]; omega
  · show c.tasks = ((List.replicate c.tasks.toNat rec0).length : Int)
    rw [List.length_replicate]; omega
  · show 1 ≤ c.workers; omega
  · have := List.eq_of_mem_replicate hr
    rw [this]
    exact Nat.zero_le _
  · show (List.replicate (cellsN c).toNat 0).length ≤ _
    rw [List.length_replicate]
    unfold cellsN layV
    simp only
    omega
theorem ci_new {c : Cfg} (h : DecOk c) : clientNew c = some ((clieC c.subs c.workers ⟨0, 0, false, .n1⟩, ()), ()) := by
  unfold clientNew
  rw [clone_eq (.of (dec_valid h)), bnd, if_pos rfl]
theorem wk_new {l : LayV} {j : Int} : workerNew j = some ((workC l j ⟨0, 0, 0, 0, .top⟩, ()), ()) := rfl
theorem wi_new {c : Cfg} {j : Int} : WI c 1 j (workC (layV c) j ⟨0, 0, 0, 0, .top⟩) := ⟨_, rfl, trivial⟩
theorem ci_ok {c : Cfg} : CI c (clieC c.subs c.workers ⟨0, 0, false, .n1⟩) := ⟨_, rfl, Int.le_refl 0⟩
end
section
open Go Go.RowKit
set_option maxRecDepth 100000
variable [Tb]
theorem awake_eq : worksteallaw28Awake = some ((true, ()), ()) := by kernel_rfl
end
section
open Go Go.RowKit
set_option maxRecDepth 100000
variable [Tb]
theorem kind1_good {c : Cfg} {K : Nat} {env : EnvP} {w0 : WorkerV MV} {cl : ClientV MV} {eng : EngT} {b : List Int} {i : Int} {l : List EntV} (h : EI c K env) (hK : 1 ≤ K ∧ K ≤ 1000000) (hs : c.subs.length ≤ 1000000) (h0 : WI c K 0 w0) (hc : CI c cl) :
    Good (onceKind1 l (b, i, env, w0, cl, eng, ()) ((env.m.count, ()), (env.m, ()))) fun z => One env.m z.1.m ∧ ((atK5 l i).kind ≠ 0 → z.1.m = env.m) ∧ EI c (K + 3) z.1 ∧ WI c (K + 3) 0 z.2.1 ∧ CI c z.2.2.1 ∧ z.2.2.2.1 = eng := by
  unfold onceKind1
  refine Good.ite (fun hk => ?_) fun hk => Good.ite (fun _ => ?_) fun _ => Good.ite (fun _ => ?_) fun _ => ?_
  · refine (mach_good (n := 2) (by decide) hk).bind fun o ho => ?_
    refine Good.ite (fun _ => ?_) fun n1 => Good.ite (fun _ => ?_) fun n0 => ?_
    · exact (ci_step h hK hs hc).bind fun o ho => .some_ ⟨ho.1, fun hn => absurd hk hn, ho.2.1, h0.up (by omega), ho.2.2, rfl⟩
    · exact (wi_step h hK h0).bind fun o ho => .some_ ⟨ho.1, fun hn => absurd hk hn, ho.2.1, ho.2.2, hc, rfl⟩
    · exfalso; have m0 : ¬ o.1.1 = ((0 : Nat) : Int) := n0; have m1 : ¬ o.1.1 = ((1 : Nat) : Int) := n1; omega
  · exact ⟨_, rfl, .no, fun _ => rfl, (EI.clk h).up (by omega), h0.up (by omega), hc, rfl⟩
  · exact ⟨_, rfl, .no, fun _ => rfl, (EI.clk h).up (by omega), h0.up (by omega), hc, rfl⟩
  · exact ⟨_, rfl, .no, fun _ => rfl, h.up (by omega), h0.up (by omega), hc, rfl⟩
theorem loop1_good {c : Cfg} {env : EnvP} {w0 : WorkerV MV} {cl : ClientV MV} {eng : EngT} {l : List EntV} (hl : l.length ≤ 300) (h : EI c 1 env) (hs : c.subs.length ≤ 1000000) (h0 : WI c 1 0 w0) (hc : CI c cl) (hg : eng.2.1.length ≤ 1) :
    Good (lpF (onceBody1 l) 18446744073709551616 (env.m.cells, 0, env, w0, cl, eng, ())) fun z => ∃ y, z = Sum.inl y := by
  refine lp_good (fun x => 0 ≤ x.2.1 ∧ x.2.1 ≤ (l.length : Int) ∧ x.1 = x.2.2.1.m.cells ∧ EI c (1 + 3 * x.2.1.toNat) x.2.2.1 ∧ WI c (1 + 3 * x.2.1.toNat) 0 x.2.2.2.1 ∧ CI c x.2.2.2.2.1 ∧ x.2.2.2.2.2.1.2.1.length ≤ 1 + 3 * x.2.1.toNat) (fun x => (l.length : Int).toNat - x.2.1.toNat) (fun self x hx ih => ?_) _ _ ⟨Int.le_refl 0, by show (0 : Int) ≤ _; omega, rfl, h, h0, hc, hg⟩ (by show _ - _ < _; omega)
  obtain ⟨b, i, env, w0, cl, eng, ⟨⟩⟩ := x
  obtain ⟨q1, q2, q3, h, h0, hc, hg⟩ := hx
  simp only at q1 q2 q3 h h0 hc hg
  subst q3
  unfold onceBody1
  refine Good.ite (fun hlt => ?_) fun _ => .some_ ⟨_, rfl⟩
  have hlt : i < (l.length : Int) := hlt
  refine Good.guard ⟨q1, hlt⟩ fun _ => ?_
  rw [count_eq, bnd]
  refine (kind1_good (b := env.m.cells) (i := i) (l := l) (eng := eng) h ⟨by omega, by omega⟩ hs h0 hc).bind fun z hz => ?_
  obtain ⟨ze, z0, zc, zg, ⟨⟩⟩ := z
  obtain ⟨a1, a2, a3, b0, ac, ag⟩ := hz
  simp only at a1 a2 a3 b0 ac ag
  subst ag
  have hc0 := h.ct
  refine tail_good (N := 1 + 3 * i.toNat + 3) ⟨q1, hlt⟩ a1 ⟨hc0.1, by omega⟩ a2 h.cl a3.ok.ev (by show zg.2.1.length ≤ _; omega) (by omega) fun eng' he => ?_
  have ei : wi (i + 1) = i + 1 := wi_id (rg_lit (by omega))
  have en : 1 + 3 * i.toNat + 3 = 1 + 3 * (i + 1).toNat := by omega
  rw [en] at a3 b0 he
  show Good (self (ze.m.cells, wi (i + 1), ze, z0, zc, eng', ())) _
  rw [ei]
  exact ih _ ⟨by show 0 ≤ i + 1; omega, by show i + 1 ≤ _; omega, rfl, a3, b0, ac, he⟩ (by show _ - (i + 1).toNat < _ - i.toNat; omega)
theorem once1_good {y0 y1 : List Int} {o : (Cfg × Unit) × Unit} (e : kconfig y0 = some o) (ho : DecOk o.1.1) (hw : o.1.1.workers = (((1 : Nat) : Int))) : Good (worksteallaw28EngineOnce1 y0 y1) fun r => r.1.1 = true := by
  obtain ⟨⟨c, ⟨⟩⟩, ⟨⟩⟩ := o
  simp only at ho hw
  rw [once1_unf]
  unfold onceRun1
  refine (short_good y0 [] (Nat.zero_le _)).bind fun r _ => Good.ite (fun _ => .some_ rfl) fun _ => Good.ite (fun _ => .some_ rfl) fun hlen => ?_
  rw [e, bnd, new_eq (dec_valid ho), bnd, if_neg (fun h => h rfl), ci_new ho, bnd, if_pos hw, wk_new (l := layV c) (j := 0), bnd]
  refine Good.bind (P := fun z => z = (0, envV c, workC (layV c) 0 ⟨0, 0, 0, 0, .top⟩, clieC c.subs c.workers ⟨0, 0, false, .n1⟩, (0, [], 0, 0, 0, 0, ()), ())) (lp_good (fun x => x = (0, envV c, workC (layV c) 0 ⟨0, 0, 0, 0, .top⟩, clieC c.subs c.workers ⟨0, 0, false, .n1⟩, (0, [], 0, 0, 0, 0, ()), ())) (fun _ => 0) (fun self x hx ih => ?_) _ _ rfl (by show 0 < _; omega)) fun z hz => ?_
  · subst hx
    exact Good.ite (fun h => absurd (show (0 : Int) < 0 from h) (by decide)) fun _ => .some_ rfl
  subst hz
  rw [awake_eq, bnd, if_neg (by decide)]
  refine (script_len (n := 300) (by omega) (by decide)).bind fun s hs => ?_
  rw [cells_eq _ (ei_new ho).cl, bnd]
  refine Good.bind (loop1_good (l := s.1.1) hs (ei_new ho) (by have := ho.sn; omega) wi_new ci_ok (Nat.zero_le _)) fun z hz => ?_
  obtain ⟨y, rfl⟩ := hz
  exact .some_ rfl
theorem kind2_good {c : Cfg} {K : Nat} {env : EnvP} {w0 w1 : WorkerV MV} {cl : ClientV MV} {eng : EngT} {b : List Int} {i : Int} {l : List EntV} (h : EI c K env) (hK : 1 ≤ K ∧ K ≤ 1000000) (hs : c.subs.length ≤ 1000000) (h0 : WI c K 0 w0) (h1 : WI c K 1 w1) (hc : CI c cl) :
    Good (onceKind2 l (b, i, env, w0, w1, cl, eng, ()) ((env.m.count, ()), (env.m, ()))) fun z => One env.m z.1.m ∧ ((atK5 l i).kind ≠ 0 → z.1.m = env.m) ∧ EI c (K + 3) z.1 ∧ WI c (K + 3) 0 z.2.1 ∧ WI c (K + 3) 1 z.2.2.1 ∧ CI c z.2.2.2.1 ∧ z.2.2.2.2.1 = eng := by
  unfold onceKind2
  refine Good.ite (fun hk => ?_) fun hk => Good.ite (fun _ => ?_) fun _ => Good.ite (fun _ => ?_) fun _ => ?_
  · refine (mach_good (n := 3) (by decide) hk).bind fun o ho => ?_
    refine Good.ite (fun _ => ?_) fun n2 => Good.ite (fun _ => ?_) fun n1 => Good.ite (fun _ => ?_) fun n0 => ?_
    · exact (ci_step h hK hs hc).bind fun o ho => .some_ ⟨ho.1, fun hn => absurd hk hn, ho.2.1, h0.up (by omega), h1.up (by omega), ho.2.2, rfl⟩
    · exact (wi_step h hK h1).bind fun o ho => .some_ ⟨ho.1, fun hn => absurd hk hn, ho.2.1, h0.up (by omega), ho.2.2, hc, rfl⟩
    · exact (wi_step h hK h0).bind fun o ho => .some_ ⟨ho.1, fun hn => absurd hk hn, ho.2.1, ho.2.2, h1.up (by omega), hc, rfl⟩
    · exfalso; have m0 : ¬ o.1.1 = ((0 : Nat) : Int) := n0; have m1 : ¬ o.1.1 = ((1 : Nat) : Int) := n1; have m2 : ¬ o.1.1 = ((2 : Nat) : Int) := n2; omega
  · exact ⟨_, rfl, .no, fun _ => rfl, (EI.clk h).up (by omega), h0.up (by omega), h1.up (by omega), hc, rfl⟩
  · exact ⟨_, rfl, .no, fun _ => rfl, (EI.clk h).up (by omega), h0.up (by omega), h1.up (by omega), hc, rfl⟩
  · exact ⟨_, rfl, .no, fun _ => rfl, h.up (by omega), h0.up (by omega), h1.up (by omega), hc, rfl⟩
theorem loop2_good {c : Cfg} {env : EnvP} {w0 w1 : WorkerV MV} {cl : ClientV MV} {eng : EngT} {l : List EntV} (hl : l.length ≤ 300) (h : EI c 1 env) (hs : c.subs.length ≤ 1000000) (h0 : WI c 1 0 w0) (h1 : WI c 1 1 w1) (hc : CI c cl) (hg : eng.2.1.length ≤ 1) :
    Good (lpF (onceBody2 l) 18446744073709551616 (env.m.cells, 0, env, w0, w1, cl, eng, ())) fun z => ∃ y, z = Sum.inl y := by
  refine lp_good (fun x => 0 ≤ x.2.1 ∧ x.2.1 ≤ (l.length : Int) ∧ x.1 = x.2.2.1.m.cells ∧ EI c (1 + 3 * x.2.1.toNat) x.2.2.1 ∧ WI c (1 + 3 * x.2.1.toNat) 0 x.2.2.2.1 ∧ WI c (1 + 3 * x.2.1.toNat) 1 x.2.2.2.2.1 ∧ CI c x.2.2.2.2.2.1 ∧ x.2.2.2.2.2.2.1.2.1.length ≤ 1 + 3 * x.2.1.toNat) (fun x => (l.length : Int).toNat - x.2.1.toNat) (fun self x hx ih => ?_) _ _ ⟨Int.le_refl 0, by show (0 : Int) ≤ _; omega, rfl, h, h0, h1, hc, hg⟩ (by show _ - _ < _; omega)
  obtain ⟨b, i, env, w0, w1, cl, eng, ⟨⟩⟩ := x
  obtain ⟨q1, q2, q3, h, h0, h1, hc, hg⟩ := hx
  simp only at q1 q2 q3 h h0 h1 hc hg
  subst q3
  unfold onceBody2
  refine Good.ite (fun hlt => ?_) fun _ => .some_ ⟨_, rfl⟩
  have hlt : i < (l.length : Int) := hlt
  refine Good.guard ⟨q1, hlt⟩ fun _ => ?_
  rw [count_eq, bnd]
  refine (kind2_good (b := env.m.cells) (i := i) (l := l) (eng := eng) h ⟨by omega, by omega⟩ hs h0 h1 hc).bind fun z hz => ?_
  obtain ⟨ze, z0, z1, zc, zg, ⟨⟩⟩ := z
  obtain ⟨a1, a2, a3, b0, b1, ac, ag⟩ := hz
  simp only at a1 a2 a3 b0 b1 ac ag
  subst ag
  have hc0 := h.ct
  refine tail_good (N := 1 + 3 * i.toNat + 3) ⟨q1, hlt⟩ a1 ⟨hc0.1, by omega⟩ a2 h.cl a3.ok.ev (by show zg.2.1.length ≤ _; omega) (by omega) fun eng' he => ?_
  have ei : wi (i + 1) = i + 1 := wi_id (rg_lit (by omega))
  have en : 1 + 3 * i.toNat + 3 = 1 + 3 * (i + 1).toNat := by omega
  rw [en] at a3 b0 b1 he
  show Good (self (ze.m.cells, wi (i + 1), ze, z0, z1, zc, eng', ())) _
  rw [ei]
  exact ih _ ⟨by show 0 ≤ i + 1; omega, by show i + 1 ≤ _; omega, rfl, a3, b0, b1, ac, he⟩ (by show _ - (i + 1).toNat < _ - i.toNat; omega)
theorem once2_good {y0 y1 : List Int} {o : (Cfg × Unit) × Unit} (e : kconfig y0 = some o) (ho : DecOk o.1.1) (hw : o.1.1.workers = (((2 : Nat) : Int))) : Good (worksteallaw28EngineOnce2 y0 y1) fun r => r.1.1 = true := by
  obtain ⟨⟨c, ⟨⟩⟩, ⟨⟩⟩ := o
  simp only at ho hw
  rw [once2_unf]
  unfold onceRun2
  refine (short_good y0 [] (Nat.zero_le _)).bind fun r _ => Good.ite (fun _ => .some_ rfl) fun _ => Good.ite (fun _ => .some_ rfl) fun hlen => ?_
  rw [e, bnd, new_eq (dec_valid ho), bnd, if_neg (fun h => h rfl), ci_new ho, bnd, if_pos hw, wk_new (l := layV c) (j := 0), bnd, wk_new (l := layV c) (j := 1), bnd]
  refine Good.bind (P := fun z => z = (0, envV c, workC (layV c) 0 ⟨0, 0, 0, 0, .top⟩, workC (layV c) 1 ⟨0, 0, 0, 0, .top⟩, clieC c.subs c.workers ⟨0, 0, false, .n1⟩, (0, [], 0, 0, 0, 0, ()), ())) (lp_good (fun x => x = (0, envV c, workC (layV c) 0 ⟨0, 0, 0, 0, .top⟩, workC (layV c) 1 ⟨0, 0, 0, 0, .top⟩, clieC c.subs c.workers ⟨0, 0, false, .n1⟩, (0, [], 0, 0, 0, 0, ()), ())) (fun _ => 0) (fun self x hx ih => ?_) _ _ rfl (by show 0 < _; omega)) fun z hz => ?_
  · subst hx
    exact Good.ite (fun h => absurd (show (0 : Int) < 0 from h) (by decide)) fun _ => .some_ rfl
  subst hz
  rw [awake_eq, bnd, if_neg (by decide)]
  refine (script_len (n := 300) (by omega) (by decide)).bind fun s hs => ?_
  rw [cells_eq _ (ei_new ho).cl, bnd]
  refine Good.bind (loop2_good (l := s.1.1) hs (ei_new ho) (by have := ho.sn; omega) wi_new wi_new ci_ok (Nat.zero_le _)) fun z hz => ?_
  obtain ⟨y, rfl⟩ := hz
  exact .some_ rfl
theorem kind3_good {c : Cfg} {K : Nat} {env : EnvP} {w0 w1 w2 : WorkerV MV} {cl : ClientV MV} {eng : EngT} {b : List Int} {i : Int} {l : List EntV} (h : EI c K env) (hK : 1 ≤ K ∧ K ≤ 1000000) (hs : c.subs.length ≤ 1000000) (h0 : WI c K 0 w0) (h1 : WI c K 1 w1) (h2 : WI c K 2 w2) (hc : CI c cl) :
    Good (onceKind3 l (b, i, env, w0, w1, w2, cl, eng, ()) ((env.m.count, ()), (env.m, ()))) fun z => One env.m z.1.m ∧ ((atK5 l i).kind ≠ 0 → z.1.m = env.m) ∧ EI c (K + 3) z.1 ∧ WI c (K + 3) 0 z.2.1 ∧ WI c (K + 3) 1 z.2.2.1 ∧ WI c (K + 3) 2 z.2.2.2.1 ∧ CI c z.2.2.2.2.1 ∧ z.2.2.2.2.2.1 = eng := by
  unfold onceKind3
  refine Good.ite (fun hk => ?_) fun hk => Good.ite (fun _ => ?_) fun _ => Good.ite (fun _ => ?_) fun _ => ?_
  · refine (mach_good (n := 4) (by decide) hk).bind fun o ho => ?_
    refine Good.ite (fun _ => ?_) fun n3 => Good.ite (fun _ => ?_) fun n2 => Good.ite (fun _ => ?_) fun n1 => Good.ite (fun _ => ?_) fun n0 => ?_
    · exact (ci_step h hK hs hc).bind fun o ho => .some_ ⟨ho.1, fun hn => absurd hk hn, ho.2.1, h0.up (by omega), h1.up (by omega), h2.up (by omega), ho.2.2, rfl⟩
    · exact (wi_step h hK h2).bind fun o ho => .some_ ⟨ho.1, fun hn => absurd hk hn, ho.2.1, h0.up (by omega), h1.up (by omega), ho.2.2, hc, rfl⟩
    · exact (wi_step h hK h1).bind fun o ho => .some_ ⟨ho.1, fun hn => absurd hk hn, ho.2.1, h0.up (by omega), ho.2.2, h2.up (by omega), hc, rfl⟩
    · exact (wi_step h hK h0).bind fun o ho => .some_ ⟨ho.1, fun hn => absurd hk hn, ho.2.1, ho.2.2, h1.up (by omega), h2.up (by omega), hc, rfl⟩
    · exfalso; have m0 : ¬ o.1.1 = ((0 : Nat) : Int) := n0; have m1 : ¬ o.1.1 = ((1 : Nat) : Int) := n1; have m2 : ¬ o.1.1 = ((2 : Nat) : Int) := n2; have m3 : ¬ o.1.1 = ((3 : Nat) : Int) := n3; omega
  · exact ⟨_, rfl, .no, fun _ => rfl, (EI.clk h).up (by omega), h0.up (by omega), h1.up (by omega), h2.up (by omega), hc, rfl⟩
  · exact ⟨_, rfl, .no, fun _ => rfl, (EI.clk h).up (by omega), h0.up (by omega), h1.up (by omega), h2.up (by omega), hc, rfl⟩
  · exact ⟨_, rfl, .no, fun _ => rfl, h.up (by omega), h0.up (by omega), h1.up (by omega), h2.up (by omega), hc, rfl⟩
theorem loop3_good {c : Cfg} {env : EnvP} {w0 w1 w2 : WorkerV MV} {cl : ClientV MV} {eng : EngT} {l : List EntV} (hl : l.length ≤ 300) (h : EI c 1 env) (hs : c.subs.length ≤ 1000000) (h0 : WI c 1 0 w0) (h1 : WI c 1 1 w1) (h2 : WI c 1 2 w2) (hc : CI c cl) (hg : eng.2.1.length ≤ 1) :
    Good (lpF (onceBody3 l) 18446744073709551616 (env.m.cells, 0, env, w0, w1, w2, cl, eng, ())) fun z => ∃ y, z = Sum.inl y := by
  refine lp_good (fun x => 0 ≤ x.2.1 ∧ x.2.1 ≤ (l.length : Int) ∧ x.1 = x.2.2.1.m.cells ∧ EI c (1 + 3 * x.2.1.toNat) x.2.2.1 ∧ WI c (1 + 3 * x.2.1.toNat) 0 x.2.2.2.1 ∧ WI c (1 + 3 * x.2.1.toNat) 1 x.2.2.2.2.1 ∧ WI c (1 + 3 * x.2.1.toNat) 2 x.2.2.2.2.2.1 ∧ CI c x.2.2.2.2.2.2.1 ∧ x.2.2.2.2.2.2.2.1.2.1.length ≤ 1 + 3 * x.2.1.toNat) (fun x => (l.length : Int).toNat - x.2.1.toNat) (fun self x hx ih => ?_) _ _ ⟨Int.le_refl 0, by show (0 : Int) ≤ _; omega, rfl, h, h0, h1, h2, hc, hg⟩ (by show _ - _ < _; omega)
  obtain ⟨b, i, env, w0, w1, w2, cl, eng, ⟨⟩⟩ := x
  obtain ⟨q1, q2, q3, h, h0, h1, h2, hc, hg⟩ := hx
  simp only at q1 q2 q3 h h0 h1 h2 hc hg
  subst q3
  unfold onceBody3
  refine Good.ite (fun hlt => ?_) fun _ => .some_ ⟨_, rfl⟩
  have hlt : i < (l.length : Int) := hlt
  refine Good.guard ⟨q1, hlt⟩ fun _ => ?_
  rw [count_eq, bnd]
  refine (kind3_good (b := env.m.cells) (i := i) (l := l) (eng := eng) h ⟨by omega, by omega⟩ hs h0 h1 h2 hc).bind fun z hz => ?_
  obtain ⟨ze, z0, z1, z2, zc, zg, ⟨⟩⟩ := z
  obtain ⟨a1, a2, a3, b0, b1, b2, ac, ag⟩ := hz
  simp only at a1 a2 a3 b0 b1 b2 ac ag
  subst ag
  have hc0 := h.ct
  refine tail_good (N := 1 + 3 * i.toNat + 3) ⟨q1, hlt⟩ a1 ⟨hc0.1, by omega⟩ a2 h.cl a3.ok.ev (by show zg.2.1.length ≤ _; omega) (by omega) fun eng' he => ?_
  have ei : wi (i + 1) = i + 1 := wi_id (rg_lit (by omega))
  have en : 1 + 3 * i.toNat + 3 = 1 + 3 * (i + 1).toNat := by omega
  rw [en] at a3 b0 b1 b2 he
  show Good (self (ze.m.cells, wi (i + 1), ze, z0, z1, z2, zc, eng', ())) _
  rw [ei]
  exact ih _ ⟨by show 0 ≤ i + 1; omega, by show i + 1 ≤ _; omega, rfl, a3, b0, b1, b2, ac, he⟩ (by show _ - (i + 1).toNat < _ - i.toNat; omega)
theorem once3_good {y0 y1 : List Int} {o : (Cfg × Unit) × Unit} (e : kconfig y0 = some o) (ho : DecOk o.1.1) (hw : o.1.1.workers = (((3 : Nat) : Int))) : Good (worksteallaw28EngineOnce3 y0 y1) fun r => r.1.1 = true := by
  obtain ⟨⟨c, ⟨⟩⟩, ⟨⟩⟩ := o
  simp only at ho hw
  rw [once3_unf]
  unfold onceRun3
  refine (short_good y0 [] (Nat.zero_le _)).bind fun r _ => Good.ite (fun _ => .some_ rfl) fun _ => Good.ite (fun _ => .some_ rfl) fun hlen => ?_
  rw [e, bnd, new_eq (dec_valid ho), bnd, if_neg (fun h => h rfl), ci_new ho, bnd, if_pos hw, wk_new (l := layV c) (j := 0), bnd, wk_new (l := layV c) (j := 1), bnd, wk_new (l := layV c) (j := 2), bnd]
  refine Good.bind (P := fun z => z = (0, envV c, workC (layV c) 0 ⟨0, 0, 0, 0, .top⟩, workC (layV c) 1 ⟨0, 0, 0, 0, .top⟩, workC (layV c) 2 ⟨0, 0, 0, 0, .top⟩, clieC c.subs c.workers ⟨0, 0, false, .n1⟩, (0, [], 0, 0, 0, 0, ()), ())) (lp_good (fun x => x = (0, envV c, workC (layV c) 0 ⟨0, 0, 0, 0, .top⟩, workC (layV c) 1 ⟨0, 0, 0, 0, .top⟩, workC (layV c) 2 ⟨0, 0, 0, 0, .top⟩, clieC c.subs c.workers ⟨0, 0, false, .n1⟩, (0, [], 0, 0, 0, 0, ()), ())) (fun _ => 0) (fun self x hx ih => ?_) _ _ rfl (by show 0 < _; omega)) fun z hz => ?_
  · subst hx
    exact Good.ite (fun h => absurd (show (0 : Int) < 0 from h) (by decide)) fun _ => .some_ rfl
  subst hz
  rw [awake_eq, bnd, if_neg (by decide)]
  refine (script_len (n := 300) (by omega) (by decide)).bind fun s hs => ?_
  rw [cells_eq _ (ei_new ho).cl, bnd]
  refine Good.bind (loop3_good (l := s.1.1) hs (ei_new ho) (by have := ho.sn; omega) wi_new wi_new wi_new ci_ok (Nat.zero_le _)) fun z hz => ?_
  obtain ⟨y, rfl⟩ := hz
  exact .some_ rfl
theorem kind4_good {c : Cfg} {K : Nat} {env : EnvP} {w0 w1 w2 w3 : WorkerV MV} {cl : ClientV MV} {eng : EngT} {b : List Int} {i : Int} {l : List EntV} (h : EI c K env) (hK : 1 ≤ K ∧ K ≤ 1000000) (hs : c.subs.length ≤ 1000000) (h0 : WI c K 0 w0) (h1 : WI c K 1 w1) (h2 : WI c K 2 w2) (h3 : WI c K 3 w3) (hc : CI c cl) :
    Good (onceKind4 l (b, i, env, w0, w1, w2, w3, cl, eng, ()) ((env.m.count, ()), (env.m, ()))) fun z => One env.m z.1.m ∧ ((atK5 l i).kind ≠ 0 → z.1.m = env.m) ∧ EI c (K + 3) z.1 ∧ WI c (K + 3) 0 z.2.1 ∧ WI c (K + 3) 1 z.2.2.1 ∧ WI c (K + 3) 2 z.2.2.2.1 ∧ WI c (K + 3) 3 z.2.2.2.2.1 ∧ CI c z.2.2.2.2.2.1 ∧ z.2.2.2.2.2.2.1 = eng := by
  unfold onceKind4
  refine Good.ite (fun hk => ?_) fun hk => Good.ite (fun _ => ?_) fun _ => Good.ite (fun _ => ?_) fun _ => ?_
  · refine (mach_good (n := 5) (by decide) hk).bind fun o ho => ?_
    refine Good.ite (fun _ => ?_) fun n4 => Good.ite (fun _ => ?_) fun n3 => Good.ite (fun _ => ?_) fun n2 => Good.ite (fun _ => ?_) fun n1 => Good.ite (fun _ => ?_) fun n0 => ?_
    · exact (ci_step h hK hs hc).bind fun o ho => .some_ ⟨ho.1, fun hn => absurd hk hn, ho.2.1, h0.up (by omega), h1.up (by omega), h2.up (by omega), h3.up (by omega), ho.2.2, rfl⟩
    · exact (wi_step h hK h3).bind fun o ho => .some_ ⟨ho.1, fun hn => absurd hk hn, ho.2.1, h0.up (by omega), h1.up (by omega), h2.up (by omega), ho.2.2, hc, rfl⟩
    · exact (wi_step h hK h2).bind fun o ho => .some_ ⟨ho.1, fun hn => absurd hk hn, ho.2.1, h0.up (by omega), h1.up (by omega), ho.2.2, h3.up (by omega), hc, rfl⟩
    · exact (wi_step h hK h1).bind fun o ho => .some_ ⟨ho.1, fun hn => absurd hk hn, ho.2.1, h0.up (by omega), ho.2.2, h2.up (by omega), h3.up (by omega), hc, rfl⟩
    · exact (wi_step h hK h0).bind fun o ho => .some_ ⟨ho.1, fun hn => absurd hk hn, ho.2.1, ho.2.2, h1.up (by omega), h2.up (by omega), h3.up (by omega), hc, rfl⟩
    · exfalso; have m0 : ¬ o.1.1 = ((0 : Nat) : Int) := n0; have m1 : ¬ o.1.1 = ((1 : Nat) : Int) := n1; have m2 : ¬ o.1.1 = ((2 : Nat) : Int) := n2; have m3 : ¬ o.1.1 = ((3 : Nat) : Int) := n3; have m4 : ¬ o.1.1 = ((4 : Nat) : Int) := n4; omega
  · exact ⟨_, rfl, .no, fun _ => rfl, (EI.clk h).up (by omega), h0.up (by omega), h1.up (by omega), h2.up (by omega), h3.up (by omega), hc, rfl⟩
  · exact ⟨_, rfl, .no, fun _ => rfl, (EI.clk h).up (by omega), h0.up (by omega), h1.up (by omega), h2.up (by omega), h3.up (by omega), hc, rfl⟩
  · exact ⟨_, rfl, .no, fun _ => rfl, h.up (by omega), h0.up (by omega), h1.up (by omega), h2.up (by omega), h3.up (by omega), hc, rfl⟩
theorem loop4_good {c : Cfg} {env : EnvP} {w0 w1 w2 w3 : WorkerV MV} {cl : ClientV MV} {eng : EngT} {l : List EntV} (hl : l.length ≤ 300) (h : EI c 1 env) (hs : c.subs.length ≤ 1000000) (h0 : WI c 1 0 w0) (h1 : WI c 1 1 w1) (h2 : WI c 1 2 w2) (h3 : WI c 1 3 w3) (hc : CI c cl) (hg : eng.2.1.length ≤ 1) :
    Good (lpF (onceBody4 l) 18446744073709551616 (env.m.cells, 0, env, w0, w1, w2, w3, cl, eng, ())) fun z => ∃ y, z = Sum.inl y := by
  refine lp_good (fun x => 0 ≤ x.2.1 ∧ x.2.1 ≤ (l.length : Int) ∧ x.1 = x.2.2.1.m.cells ∧ EI c (1 + 3 * x.2.1.toNat) x.2.2.1 ∧ WI c (1 + 3 * x.2.1.toNat) 0 x.2.2.2.1 ∧ WI c (1 + 3 * x.2.1.toNat) 1 x.2.2.2.2.1 ∧ WI c (1 + 3 * x.2.1.toNat) 2 x.2.2.2.2.2.1 ∧ WI c (1 + 3 * x.2.1.toNat) 3 x.2.2.2.2.2.2.1 ∧ CI c x.2.2.2.2.2.2.2.1 ∧ x.2.2.2.2.2.2.2.2.1.2.1.length ≤ 1 + 3 * x.2.1.toNat) (fun x => (l.length : Int).toNat - x.2.1.toNat) (fun self x hx ih => ?_) _ _ ⟨Int.le_refl 0, by show (0 : Int) ≤ _; omega, rfl, h, h0, h1, h2, h3, hc, hg⟩ (by show _ - _ < _; omega)
  obtain ⟨b, i, env, w0, w1, w2, w3, cl, eng, ⟨⟩⟩ := x
  obtain ⟨q1, q2, q3, h, h0, h1, h2, h3, hc, hg⟩ := hx
  simp only at q1 q2 q3 h h0 h1 h2 h3 hc hg
  subst q3
  unfold onceBody4
  refine Good.ite (fun hlt => ?_) fun _ => .some_ ⟨_, rfl⟩
  have hlt : i < (l.length : Int) := hlt
  refine Good.guard ⟨q1, hlt⟩ fun _ => ?_
  rw [count_eq, bnd]
  refine (kind4_good (b := env.m.cells) (i := i) (l := l) (eng := eng) h ⟨by omega, by omega⟩ hs h0 h1 h2 h3 hc).bind fun z hz => ?_
  obtain ⟨ze, z0, z1, z2, z3, zc, zg, ⟨⟩⟩ := z
  obtain ⟨a1, a2, a3, b0, b1, b2, b3, ac, ag⟩ := hz
  simp only at a1 a2 a3 b0 b1 b2 b3 ac ag
  subst ag
  have hc0 := h.ct
  refine tail_good (N := 1 + 3 * i.toNat + 3) ⟨q1, hlt⟩ a1 ⟨hc0.1, by omega⟩ a2 h.cl a3.ok.ev (by show zg.2.1.length ≤ _; omega) (by omega) fun eng' he => ?_
  have ei : wi (i + 1) = i + 1 := wi_id (rg_lit (by omega))
  have en : 1 + 3 * i.toNat + 3 = 1 + 3 * (i + 1).toNat := by omega
  rw [en] at a3 b0 b1 b2 b3 he
  show Good (self (ze.m.cells, wi (i + 1), ze, z0, z1, z2, z3, zc, eng', ())) _
  rw [ei]
  exact ih _ ⟨by show 0 ≤ i + 1; omega, by show i + 1 ≤ _; omega, rfl, a3, b0, b1, b2, b3, ac, he⟩ (by show _ - (i + 1).toNat < _ - i.toNat; omega)
theorem once4_good {y0 y1 : List Int} {o : (Cfg × Unit) × Unit} (e : kconfig y0 = some o) (ho : DecOk o.1.1) (hw : o.1.1.workers = (((4 : Nat) : Int))) : Good (worksteallaw28EngineOnce4 y0 y1) fun r => r.1.1 = true := by
  obtain ⟨⟨c, ⟨⟩⟩, ⟨⟩⟩ := o
  simp only at ho hw
  rw [once4_unf]
  unfold onceRun4
  refine (short_good y0 [] (Nat.zero_le _)).bind fun r _ => Good.ite (fun _ => .some_ rfl) fun _ => Good.ite (fun _ => .some_ rfl) fun hlen => ?_
  rw [e, bnd, new_eq (dec_valid ho), bnd, if_neg (fun h => h rfl), ci_new ho, bnd, if_pos hw, wk_new (l := layV c) (j := 0), bnd, wk_new (l := layV c) (j := 1), bnd, wk_new (l := layV c) (j := 2), bnd, wk_new (l := layV c) (j := 3), bnd]
  refine Good.bind (P := fun z => z = (0, envV c, workC (layV c) 0 ⟨0, 0, 0, 0, .top⟩, workC (layV c) 1 ⟨0, 0, 0, 0, .top⟩, workC (layV c) 2 ⟨0, 0, 0, 0, .top⟩, workC (layV c) 3 ⟨0, 0, 0, 0, .top⟩, clieC c.subs c.workers ⟨0, 0, false, .n1⟩, (0, [], 0, 0, 0, 0, ()), ())) (lp_good (fun x => x = (0, envV c, workC (layV c) 0 ⟨0, 0, 0, 0, .top⟩, workC (layV c) 1 ⟨0, 0, 0, 0, .top⟩, workC (layV c) 2 ⟨0, 0, 0, 0, .top⟩, workC (layV c) 3 ⟨0, 0, 0, 0, .top⟩, clieC c.subs c.workers ⟨0, 0, false, .n1⟩, (0, [], 0, 0, 0, 0, ()), ())) (fun _ => 0) (fun self x hx ih => ?_) _ _ rfl (by show 0 < _; omega)) fun z hz => ?_
  · subst hx
    exact Good.ite (fun h => absurd (show (0 : Int) < 0 from h) (by decide)) fun _ => .some_ rfl
  subst hz
  rw [awake_eq, bnd, if_neg (by decide)]
  refine (script_len (n := 300) (by omega) (by decide)).bind fun s hs => ?_
  rw [cells_eq _ (ei_new ho).cl, bnd]
  refine Good.bind (loop4_good (l := s.1.1) hs (ei_new ho) (by have := ho.sn; omega) wi_new wi_new wi_new wi_new ci_ok (Nat.zero_le _)) fun z hz => ?_
  obtain ⟨y, rfl⟩ := hz
  exact .some_ rfl
end
section
open Go Go.RowKit
set_option maxRecDepth 100000
variable [Tb]
theorem once_any {y0 y1 : List Int} (hb : ∀ x ∈ y0, 0 ≤ x ∧ x ≤ 255) :
    Good (worksteallaw28EngineOnce1 y0 y1) (fun r => r.1.1 = true) ∨ Good (worksteallaw28EngineOnce2 y0 y1) (fun r => r.1.1 = true) ∨ Good (worksteallaw28EngineOnce3 y0 y1) (fun r => r.1.1 = true) ∨ Good (worksteallaw28EngineOnce4 y0 y1) (fun r => r.1.1 = true) := by
  by_cases hl : y0.length ≤ 400
  · obtain ⟨o, e, ho⟩ := config_good hb (by omega)
    have hw := ho.w
    have hv : o.1.1.workers = ((1 : Nat) : Int) ∨ o.1.1.workers = ((2 : Nat) : Int) ∨ o.1.1.workers = ((3 : Nat) : Int) ∨ o.1.1.workers = ((4 : Nat) : Int) := by omega
    rcases hv with h | h | h | h
    · exact .inl (once1_good e ho h)
    · exact .inr (.inl (once2_good e ho h))
    · exact .inr (.inr (.inl (once3_good e ho h)))
    · exact .inr (.inr (.inr (once4_good e ho h)))
  · refine .inl ?_
    rw [once1_unf]
    unfold onceRun1
    refine (short_good y0 [] (Nat.zero_le _)).bind fun r hr => Good.ite (fun _ => .some_ rfl) fun h => ?_
    exfalso
    have h1 : r.1.1 = true := by revert h; cases r.1.1 <;> simp
    exact hl (hr h1).1
end
end Go.Proofs.YtgiagoeoifgliaaGreat
