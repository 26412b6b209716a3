/- Plain safety, 5: a probe. Plain safety, 6: what a line enters. -/
import Derived.Test.YtpbkelpokpglaaaGreatKy
import Derived.Test.YtpbkelpokpglaaaGreatKr
import Derived.Test.YtpbkelpokpglaaaGreatKt
set_option linter.all false
namespace Go.Proofs.YtpbkelpokpglaaaGreat
section
open Go
section
variable {K : Nat} {c : Cfg} {m : MemV} {f : FrV} {draw : Int}
def LoopP (c : Cfg) (L : Nat → Bool × Int × FrV → Option (Bool × Int × FrV)) : Prop := ∀ (k : Nat) (y : Bool × Int × FrV), 0 ≤ y.2.1 → y.2.1 ≤ 100 → 101 - y.2.1 ≤ k → Good (L k y) fun z => z.2.2 = y.2.2 ∧ (z.1 = true → y.1 = true ∨ y.2.1 < c.workers)
theorem probe_l2_ok (hc : CfgOk c) : LoopP c (r8probe_l2 c)
  | 0, y, h0, h1, h => by omega
  | k + 1, y, h0, h1, h => by
    have hw := hc.w2
    have hw1 := hc.w1
    rw [r8probe_l2]
    refine Good.ite (fun h2 => ?_) fun _ => .some_ ⟨rfl, fun e => .inl e⟩
    have e : wi (y.2.1 + 1) = y.2.1 + 1 := wi_id (by unfold Rg; omega)
    refine Good.ite (fun _ => ?_) fun _ => .guard (by omega) fun _ => ?_
    · exact (probe_l2_ok hc k _ (by show 0 ≤ wi (y.2.1 + 1); rw [e]; omega) (by show wi (y.2.1 + 1) ≤ 100; rw [e]; omega) (by show 101 - wi (y.2.1 + 1) ≤ k; rw [e]; omega)).mono fun z hz => ⟨hz.1, fun _ => .inr h2⟩
    · exact (probe_l2_ok hc k _ (by show 0 ≤ wi (y.2.1 + 1); rw [e]; omega) (by show wi (y.2.1 + 1) ≤ 100; rw [e]; omega) (by show 101 - wi (y.2.1 + 1) ≤ k; rw [e]; omega)).mono fun z hz => ⟨hz.1, fun _ => .inr h2⟩
theorem probe_l3_ok (hc : CfgOk c) : LoopP c (r8probe_l3 c)
  | 0, y, h0, h1, h => by omega
  | k + 1, y, h0, h1, h => by
    have hw := hc.w2
    have hw1 := hc.w1
    rw [r8probe_l3]
    refine Good.ite (fun h2 => ?_) fun _ => .some_ ⟨rfl, fun e => .inl e⟩
    have e : wi (y.2.1 + 1) = y.2.1 + 1 := wi_id (by unfold Rg; omega)
    refine Good.ite (fun _ => ?_) fun _ => .guard (by omega) fun _ => ?_
    · exact (probe_l3_ok hc k _ (by show 0 ≤ wi (y.2.1 + 1); rw [e]; omega) (by show wi (y.2.1 + 1) ≤ 100; rw [e]; omega) (by show 101 - wi (y.2.1 + 1) ≤ k; rw [e]; omega)).mono fun z hz => ⟨hz.1, fun _ => .inr h2⟩
    · exact (probe_l3_ok hc k _ (by show 0 ≤ wi (y.2.1 + 1); rw [e]; omega) (by show wi (y.2.1 + 1) ≤ 100; rw [e]; omega) (by show 101 - wi (y.2.1 + 1) ≤ k; rw [e]; omega)).mono fun z hz => ⟨hz.1, fun _ => .inr h2⟩
theorem probe_l4_ok (hc : CfgOk c) : LoopP c (r8probe_l4 c)
  | 0, y, h0, h1, h => by omega
  | k + 1, y, h0, h1, h => by
    have hw := hc.w2
    have hw1 := hc.w1
    rw [r8probe_l4]
    refine Good.ite (fun h2 => ?_) fun _ => .some_ ⟨rfl, fun e => .inl e⟩
    have e : wi (y.2.1 + 1) = y.2.1 + 1 := wi_id (by unfold Rg; omega)
    refine Good.ite (fun _ => ?_) fun _ => .guard (by omega) fun _ => ?_
    · exact (probe_l4_ok hc k _ (by show 0 ≤ wi (y.2.1 + 1); rw [e]; omega) (by show wi (y.2.1 + 1) ≤ 100; rw [e]; omega) (by show 101 - wi (y.2.1 + 1) ≤ k; rw [e]; omega)).mono fun z hz => ⟨hz.1, fun _ => .inr h2⟩
    · exact (probe_l4_ok hc k _ (by show 0 ≤ wi (y.2.1 + 1); rw [e]; omega) (by show wi (y.2.1 + 1) ≤ 100; rw [e]; omega) (by show 101 - wi (y.2.1 + 1) ≤ k; rw [e]; omega)).mono fun z hz => ⟨hz.1, fun _ => .inr h2⟩
theorem probe_l5_ok (hc : CfgOk c) : LoopP c (r8probe_l5 c)
  | 0, y, h0, h1, h => by omega
  | k + 1, y, h0, h1, h => by
    have hw := hc.w2
    have hw1 := hc.w1
    rw [r8probe_l5]
    refine Good.ite (fun h2 => ?_) fun _ => .some_ ⟨rfl, fun e => .inl e⟩
    have e : wi (y.2.1 + 1) = y.2.1 + 1 := wi_id (by unfold Rg; omega)
    refine Good.ite (fun _ => ?_) fun _ => .guard (by omega) fun _ => ?_
    · exact (probe_l5_ok hc k _ (by show 0 ≤ wi (y.2.1 + 1); rw [e]; omega) (by show wi (y.2.1 + 1) ≤ 100; rw [e]; omega) (by show 101 - wi (y.2.1 + 1) ≤ k; rw [e]; omega)).mono fun z hz => ⟨hz.1, fun _ => .inr h2⟩
    · exact (probe_l5_ok hc k _ (by show 0 ≤ wi (y.2.1 + 1); rw [e]; omega) (by show wi (y.2.1 + 1) ≤ 100; rw [e]; omega) (by show 101 - wi (y.2.1 + 1) ≤ k; rw [e]; omega)).mono fun z hz => ⟨hz.1, fun _ => .inr h2⟩
theorem probe_l7_ok (hc : CfgOk c) : LoopP c (r8probe_l7 c)
  | 0, y, h0, h1, h => by omega
  | k + 1, y, h0, h1, h => by
    have hw := hc.w2
    have hw1 := hc.w1
    rw [r8probe_l7]
    refine Good.ite (fun h2 => ?_) fun _ => .some_ ⟨rfl, fun e => .inl e⟩
    have e : wi (y.2.1 + 1) = y.2.1 + 1 := wi_id (by unfold Rg; omega)
    refine Good.ite (fun _ => ?_) fun _ => .guard (by omega) fun _ => ?_
    · exact (probe_l7_ok hc k _ (by show 0 ≤ wi (y.2.1 + 1); rw [e]; omega) (by show wi (y.2.1 + 1) ≤ 100; rw [e]; omega) (by show 101 - wi (y.2.1 + 1) ≤ k; rw [e]; omega)).mono fun z hz => ⟨hz.1, fun _ => .inr h2⟩
    · exact (probe_l7_ok hc k _ (by show 0 ≤ wi (y.2.1 + 1); rw [e]; omega) (by show wi (y.2.1 + 1) ≤ 100; rw [e]; omega) (by show 101 - wi (y.2.1 + 1) ≤ k; rw [e]; omega)).mono fun z hz => ⟨hz.1, fun _ => .inr h2⟩
theorem probe_l8_ok (hc : CfgOk c) : LoopP c (r8probe_l8 c)
  | 0, y, h0, h1, h => by omega
  | k + 1, y, h0, h1, h => by
    have hw := hc.w2
    have hw1 := hc.w1
    rw [r8probe_l8]
    refine Good.ite (fun h2 => ?_) fun _ => .some_ ⟨rfl, fun e => .inl e⟩
    have e : wi (y.2.1 + 1) = y.2.1 + 1 := wi_id (by unfold Rg; omega)
    refine Good.ite (fun _ => ?_) fun _ => .guard (by omega) fun _ => ?_
    · exact (probe_l8_ok hc k _ (by show 0 ≤ wi (y.2.1 + 1); rw [e]; omega) (by show wi (y.2.1 + 1) ≤ 100; rw [e]; omega) (by show 101 - wi (y.2.1 + 1) ≤ k; rw [e]; omega)).mono fun z hz => ⟨hz.1, fun _ => .inr h2⟩
    · exact (probe_l8_ok hc k _ (by show 0 ≤ wi (y.2.1 + 1); rw [e]; omega) (by show wi (y.2.1 + 1) ≤ 100; rw [e]; omega) (by show 101 - wi (y.2.1 + 1) ≤ k; rw [e]; omega)).mono fun z hz => ⟨hz.1, fun _ => .inr h2⟩
theorem probe_l9_ok (hc : CfgOk c) : LoopP c (r8probe_l9 c)
  | 0, y, h0, h1, h => by omega
  | k + 1, y, h0, h1, h => by
    have hw := hc.w2
    have hw1 := hc.w1
    rw [r8probe_l9]
    refine Good.ite (fun h2 => ?_) fun _ => .some_ ⟨rfl, fun e => .inl e⟩
    have e : wi (y.2.1 + 1) = y.2.1 + 1 := wi_id (by unfold Rg; omega)
    refine Good.ite (fun _ => ?_) fun _ => .guard (by omega) fun _ => ?_
    · exact (probe_l9_ok hc k _ (by show 0 ≤ wi (y.2.1 + 1); rw [e]; omega) (by show wi (y.2.1 + 1) ≤ 100; rw [e]; omega) (by show 101 - wi (y.2.1 + 1) ≤ k; rw [e]; omega)).mono fun z hz => ⟨hz.1, fun _ => .inr h2⟩
    · exact (probe_l9_ok hc k _ (by show 0 ≤ wi (y.2.1 + 1); rw [e]; omega) (by show wi (y.2.1 + 1) ≤ 100; rw [e]; omega) (by show 101 - wi (y.2.1 + 1) ≤ k; rw [e]; omega)).mono fun z hz => ⟨hz.1, fun _ => .inr h2⟩
theorem probe_l10_ok (hc : CfgOk c) : LoopP c (r8probe_l10 c)
  | 0, y, h0, h1, h => by omega
  | k + 1, y, h0, h1, h => by
    have hw := hc.w2
    have hw1 := hc.w1
    rw [r8probe_l10]
    refine Good.ite (fun h2 => ?_) fun _ => .some_ ⟨rfl, fun e => .inl e⟩
    have e : wi (y.2.1 + 1) = y.2.1 + 1 := wi_id (by unfold Rg; omega)
    refine Good.ite (fun _ => ?_) fun _ => .guard (by omega) fun _ => ?_
    · exact (probe_l10_ok hc k _ (by show 0 ≤ wi (y.2.1 + 1); rw [e]; omega) (by show wi (y.2.1 + 1) ≤ 100; rw [e]; omega) (by show 101 - wi (y.2.1 + 1) ≤ k; rw [e]; omega)).mono fun z hz => ⟨hz.1, fun _ => .inr h2⟩
    · exact (probe_l10_ok hc k _ (by show 0 ≤ wi (y.2.1 + 1); rw [e]; omega) (by show wi (y.2.1 + 1) ≤ 100; rw [e]; omega) (by show 101 - wi (y.2.1 + 1) ≤ k; rw [e]; omega)).mono fun z hz => ⟨hz.1, fun _ => .inr h2⟩
theorem probe_l1_ok (hc : CfgOk c) : ∀ (k : Nat) (y : Int × Int × FrV), 0 ≤ y.2.1 → y.2.1 ≤ 100 → 101 - y.2.1 ≤ k → Good (r8probe_l1 c k y) fun z => z.2.2 = y.2.2
  | 0, y, h0, h1, h => by omega
  | k + 1, y, h0, h1, h => by
    have hw := hc.w2
    rw [r8probe_l1]
    refine Good.ite (fun h2 => ?_) fun _ => .some_ rfl
    have e : wi (y.2.1 + 1) = y.2.1 + 1 := wi_id (by unfold Rg; omega)
    exact probe_l1_ok hc k _ (by show 0 ≤ wi (y.2.1 + 1); rw [e]; omega) (by show wi (y.2.1 + 1) ≤ 100; rw [e]; omega) (by show 101 - wi (y.2.1 + 1) ≤ k; rw [e]; omega)
theorem probe_l6_ok (hc : CfgOk c) (f : FrV) : ∀ (k : Nat) (y : Int × Int), 0 ≤ y.2 → y.2 ≤ 100 → 101 - y.2 ≤ k → Good (r8probe_l6 c f k y) fun _ => True
  | 0, y, h0, h1, h => by omega
  | k + 1, y, h0, h1, h => by
    have hw := hc.w2
    rw [r8probe_l6]
    refine Good.ite (fun h2 => ?_) fun _ => .some_ trivial
    have e : wi (y.2 + 1) = y.2 + 1 := wi_id (by unfold Rg; omega)
    exact probe_l6_ok hc f k _ (by show 0 ≤ wi (y.2 + 1); rw [e]; omega) (by show wi (y.2 + 1) ≤ 100; rw [e]; omega) (by show 101 - wi (y.2 + 1) ≤ k; rw [e]; omega)
def ProbeP (K : Nat) (c : Cfg) (f : FrV) (o : ResV × MemV × FrV) : Prop := Same K f o.1 o.2.2 ∧ (o.1.done = false → 0 ≤ o.2.2.i ∧ o.2.2.i ≤ c.workers)
theorem probe_fin {L : Nat → Bool × Int × FrV → Option (Bool × Int × FrV)} (hL : LoopP c L) {g : FrV} {s : Int} (hg : FrR K g) (hk : g.kind = f.kind) (hl : g.l = f.l) (hi : g.i = s) (h0 : 0 ≤ s) (h1 : s ≤ 100) :
    Good ((L 1000000 (false, s, g)).bind fun z => if z.1 = true then some ((⟨false, 0, 0⟩ : ResV), m, z.2.2) else if z.2.2.j < 0 then some ((r8end_s 2 0), m, z.2.2) else some ((r8end_s 1 (wi ((wi (z.2.2.j * 64)) + z.2.2.n))), m, z.2.2)) (ProbeP K c f) := by
  refine (hL 1000000 (false, s, g) h0 h1 (by show 101 - s ≤ 1000000; omega)).bind fun z hz => ?_
  obtain ⟨a, b, z⟩ := z
  obtain ⟨hz, hz2⟩ := hz
  dsimp only at hz hz2 ⊢
  subst hz
  refine Good.ite (fun ha => .some_ ⟨⟨hg, hk, hl, by show Rg 0; (first | with_reducible assumption | with_reducible exact rg_wi _ | (unfold Rg; omega))⟩, fun _ => ?_⟩) fun _ => Good.ite (fun _ => .some_ ⟨⟨hg, hk, hl, by show Rg 0; (first | with_reducible assumption | with_reducible exact rg_wi _ | (unfold Rg; omega))⟩, fun e => by cases e⟩) fun _ => .some_ ⟨⟨hg, hk, hl, rg_wi _⟩, fun e => by cases e⟩
  have := (hz2 ha).resolve_left (by simp)
  show 0 ≤ z.i ∧ z.i ≤ c.workers
  omega
theorem tmod_rg {a n : Int} (h1 : 1 ≤ n) (h2 : n ≤ 65536) : Rg (Int.tmod a n) := by
  have h1 := Int.tmod_lt_of_pos a (b := n) (by omega)
  have h2 : -n < Int.tmod a n := Int.lt_tmod_of_pos a (b := n) (by omega)
  unfold Rg; omega
theorem probe_good (h : FrR K f) (hi : 0 ≤ f.i ∧ f.i ≤ c.workers) (hd : Rg draw) (hc : CfgOk c) : Good (r8probe_s c m draw f) (ProbeP K c f) := by
  have hw := hc.w2
  have hw1 := hc.w1
  have e1 : wi (f.i + 1) = f.i + 1 := wi_id (by unfold Rg; omega)
  have e2 : wi (wi (f.i + 1) + 1) = f.i + 2 := by rw [e1, wi_id (by unfold Rg; omega)]; omega
  unfold r8probe_s
  refine Good.ite (fun hl1 => ?_) fun hl1 => ?_
  · refine (draw_good draw c.workers hd (by unfold Rg; omega)).bind fun r4 hr4 => ?_
    have hr4 := hr4.1
    refine (probe_l1_ok hc 1000000 (0, 0, ({ f with line := 2, j := (-1), n := (-1), t := r4 } : FrV)) (by show (0 : Int) ≤ 0; omega) (by show (0 : Int) ≤ 100; omega) (by show (101 : Int) - 0 ≤ 1000000; omega)).bind fun z hz => ?_
    obtain ⟨z1, z2, g⟩ := z
    dsimp only at hz ⊢
    have hg : FrR K g := by
      rw [hz]
      have ha : Rg (-1) := by (first | with_reducible assumption | with_reducible exact rg_wi _ | (unfold Rg; omega))
      ((constructor <;> (try dsimp only) <;> first | with_reducible assumption | with_reducible exact (h).a | with_reducible exact (h).b | with_reducible exact (h).d | with_reducible exact (h).i | with_reducible exact (h).j | with_reducible exact (h).n | with_reducible exact (h).t | with_reducible exact (h).l | with_reducible exact (h).ln | with_reducible exact (h).cap | exact rg_wi _ | exact tmod_rg (by omega) (by omega)))
    have hgi : g.i = f.i := by rw [hz]
    have hgk : g.kind = f.kind := by rw [hz]
    have hgl : g.l = f.l := by rw [hz]
    clear hz
    rw [← hgi] at e1 e2 hi
    refine Good.ite (fun _ => .some_ ⟨⟨hg, hgk, hgl, by show Rg 0; (first | with_reducible assumption | with_reducible exact rg_wi _ | (unfold Rg; omega))⟩, fun e => by cases e⟩) fun _ => ?_
    refine .guard (by omega) fun _ => Good.ite (fun _ => .guard (by omega) fun _ => Good.bT fun _ _ => (high_good _).bind fun r hr => Good.ite (fun _ => ?_) fun _ => ?_) fun _ => Good.bT fun _ _ => (high_good _).bind fun r hr => Good.ite (fun _ => ?_) fun _ => ?_
    · exact probe_fin (probe_l2_ok hc) (by ((constructor <;> (try dsimp only) <;> first | with_reducible assumption | with_reducible exact (hg).a | with_reducible exact (hg).b | with_reducible exact (hg).d | with_reducible exact (hg).i | with_reducible exact (hg).j | with_reducible exact (hg).n | with_reducible exact (hg).t | with_reducible exact (hg).l | with_reducible exact (hg).ln | with_reducible exact (hg).cap | exact rg_wi _ | exact tmod_rg (by omega) (by omega)))) hgk hgl rfl (by rw [e2]; omega) (by rw [e2]; omega)
    · exact probe_fin (probe_l3_ok hc) (by ((constructor <;> (try dsimp only) <;> first | with_reducible assumption | with_reducible exact (hg).a | with_reducible exact (hg).b | with_reducible exact (hg).d | with_reducible exact (hg).i | with_reducible exact (hg).j | with_reducible exact (hg).n | with_reducible exact (hg).t | with_reducible exact (hg).l | with_reducible exact (hg).ln | with_reducible exact (hg).cap | exact rg_wi _ | exact tmod_rg (by omega) (by omega)))) hgk hgl rfl (by rw [e2]; omega) (by rw [e2]; omega)
    · exact probe_fin (probe_l4_ok hc) (by ((constructor <;> (try dsimp only) <;> first | with_reducible assumption | with_reducible exact (hg).a | with_reducible exact (hg).b | with_reducible exact (hg).d | with_reducible exact (hg).i | with_reducible exact (hg).j | with_reducible exact (hg).n | with_reducible exact (hg).t | with_reducible exact (hg).l | with_reducible exact (hg).ln | with_reducible exact (hg).cap | exact rg_wi _ | exact tmod_rg (by omega) (by omega)))) hgk hgl rfl (by rw [e1]; omega) (by rw [e1]; omega)
    · exact probe_fin (probe_l5_ok hc) (by ((constructor <;> (try dsimp only) <;> first | with_reducible assumption | with_reducible exact (hg).a | with_reducible exact (hg).b | with_reducible exact (hg).d | with_reducible exact (hg).i | with_reducible exact (hg).j | with_reducible exact (hg).n | with_reducible exact (hg).t | with_reducible exact (hg).l | with_reducible exact (hg).ln | with_reducible exact (hg).cap | exact rg_wi _ | exact tmod_rg (by omega) (by omega)))) hgk hgl rfl (by rw [e1]; omega) (by rw [e1]; omega)
  have hg := h
  have hgk : f.kind = f.kind := rfl
  have hgl : f.l = f.l := rfl
  refine (probe_l6_ok hc f 1000000 (0, 0) (by decide) (by decide) (by decide)).bind fun z hz => ?_
  refine Good.ite (fun _ => .some_ ⟨⟨hg, hgk, hgl, by show Rg 0; (first | with_reducible assumption | with_reducible exact rg_wi _ | (unfold Rg; omega))⟩, fun e => by cases e⟩) fun _ => ?_
  refine .guard (by omega) fun _ => Good.ite (fun _ => .guard (by omega) fun _ => Good.bT fun _ _ => (high_good _).bind fun r hr => Good.ite (fun _ => ?_) fun _ => ?_) fun _ => Good.bT fun _ _ => (high_good _).bind fun r hr => Good.ite (fun _ => ?_) fun _ => ?_
  · exact probe_fin (probe_l7_ok hc) (by ((constructor <;> (try dsimp only) <;> first | with_reducible assumption | with_reducible exact (hg).a | with_reducible exact (hg).b | with_reducible exact (hg).d | with_reducible exact (hg).i | with_reducible exact (hg).j | with_reducible exact (hg).n | with_reducible exact (hg).t | with_reducible exact (hg).l | with_reducible exact (hg).ln | with_reducible exact (hg).cap | exact rg_wi _ | exact tmod_rg (by omega) (by omega)))) hgk hgl rfl (by rw [e2]; omega) (by rw [e2]; omega)
  · exact probe_fin (probe_l8_ok hc) (by ((constructor <;> (try dsimp only) <;> first | with_reducible assumption | with_reducible exact (hg).a | with_reducible exact (hg).b | with_reducible exact (hg).d | with_reducible exact (hg).i | with_reducible exact (hg).j | with_reducible exact (hg).n | with_reducible exact (hg).t | with_reducible exact (hg).l | with_reducible exact (hg).ln | with_reducible exact (hg).cap | exact rg_wi _ | exact tmod_rg (by omega) (by omega)))) hgk hgl rfl (by rw [e2]; omega) (by rw [e2]; omega)
  · exact probe_fin (probe_l9_ok hc) (by ((constructor <;> (try dsimp only) <;> first | with_reducible assumption | with_reducible exact (hg).a | with_reducible exact (hg).b | with_reducible exact (hg).d | with_reducible exact (hg).i | with_reducible exact (hg).j | with_reducible exact (hg).n | with_reducible exact (hg).t | with_reducible exact (hg).l | with_reducible exact (hg).ln | with_reducible exact (hg).cap | exact rg_wi _ | exact tmod_rg (by omega) (by omega)))) hgk hgl rfl (by rw [e1]; omega) (by rw [e1]; omega)
  · exact probe_fin (probe_l10_ok hc) (by ((constructor <;> (try dsimp only) <;> first | with_reducible assumption | with_reducible exact (hg).a | with_reducible exact (hg).b | with_reducible exact (hg).d | with_reducible exact (hg).i | with_reducible exact (hg).j | with_reducible exact (hg).n | with_reducible exact (hg).t | with_reducible exact (hg).l | with_reducible exact (hg).ln | with_reducible exact (hg).cap | exact rg_wi _ | exact tmod_rg (by omega) (by omega)))) hgk hgl rfl (by rw [e1]; omega) (by rw [e1]; omega)
end
end
section
open Go
/-- How high a kind of frame may stand. -/
def rank (k : Int) : Nat := if k = 25 ∨ k = 26 then 4 else if k = 24 then 3 else if k = 15 ∨ k = 17 ∨ k = 18 ∨ k = 22 ∨ k = 23 then 2 else if k = 5 ∨ k = 6 then 1 else 0
structure TopOk (c : Cfg) (f : FrV) : Prop where
  run : f.kind = 24 → RunTop c f
  cl : f.kind = 26 → 0 ≤ f.i ∧ f.i ≤ (c.subs.length : Int)
  pr : f.kind = 21 → 0 ≤ f.i ∧ f.i ≤ c.workers
structure LiveOk (c : Cfg) (recs : List RecV) (f : FrV) : Prop where
  run : f.kind = 24 → f.l ≠ [] ∧ (f.line ≠ 23 → 0 ≤ TopL f.l ∧ TopL f.l < c.tasks) ∧ (f.line = 3 → PcIn c recs (TopL f.l))
  cl : f.kind = 26 → 0 ≤ f.i ∧ f.i ≤ (c.subs.length : Int)
  pr : f.kind = 21 → 0 ≤ f.i ∧ f.i ≤ c.workers
structure ParOk (c : Cfg) (p ch : FrV) : Prop where
  rk : rank ch.kind < rank p.kind
  run : p.kind = 24 → p.l ≠ [] ∧ (0 ≤ TopL p.l ∧ TopL p.l < c.tasks) ∧ (p.line = 5 → ch.kind = 12) ∧ p.line ≠ 3
  cl : p.kind = 26 → 0 ≤ p.i ∧ p.i < (c.subs.length : Int) ∧ (p.line = 3 → ch.kind = 12)
def PcP (c : Cfg) (recs : List RecV) (p : FrV) : Prop := p.kind = 24 → p.line = 5 → PcIn c recs (TopL p.l)
section
variable {K : Nat} {c : Cfg} {f : FrV} {recs : List RecV}
/-- A frame that has no list and whose kind bears no promise. -/
theorem topOk_of {g : FrV} (h1 : g.kind ≠ 24) (h2 : g.kind ≠ 26) (h3 : g.kind = 21 → 0 ≤ g.i ∧ g.i ≤ c.workers) : TopOk c g := ⟨fun e => absurd e h1, fun e => absurd e h2, h3⟩
structure EntP (K : Nat) (c : Cfg) (recs : List RecV) (f ch : FrV) (has : Bool) (f' : FrV) : Prop where
  fr : FrR K f'
  kind : f'.kind = f.kind
  no : has = false → LiveOk c recs f'
  yes : has = true → FrR K ({ ch with line := 1 } : FrV) ∧ TopOk c ({ ch with line := 1 } : FrV) ∧ ParOk c f' ch ∧ PcP c recs f'
theorem queue_cap (hc : CfgOk c) (w l : Int) : (r6queue_s c w l).cap ≤ 9223372036854775807 := by
  unfold r6queue_s
  have := hc.q2
  split
  · show (0 : Int) ≤ _; omega
  · show c.deque ≤ _; omega
theorem bitmap_rg (w : Int) : Rg (r6bitmap_s c w) := by
  unfold r6bitmap_s r6index_s
  split
  · (first | with_reducible assumption | with_reducible exact rg_wi _ | (unfold Rg; omega))
  · exact rg_wi _
theorem EntP.go {ch f' : FrV} (h : FrR K f') (hk : f'.kind = f.kind) (h1 : FrR K ({ ch with line := 1 } : FrV)) (h2 : TopOk c ({ ch with line := 1 } : FrV)) (h3 : ParOk c f' ch) (h4 : PcP c recs f') : EntP K c recs f ch true f' := ⟨h, hk, fun e => (by cases e), fun _ => ⟨h1, h2, h3, h4⟩⟩
theorem EntP.stop {ch f' : FrV} (h : FrR K f') (hk : f'.kind = f.kind) (h1 : LiveOk c recs f') : EntP K c recs f ch false f' := ⟨h, hk, fun _ => h1, fun e => by cases e⟩
theorem entDrain (h : FrR K f) (hc : CfgOk c) (hk : f.kind = 22) : EntP K c recs f (r8enterdrain_s f).1 (r8enterdrain_s f).2 f := by
  have hp : ∀ g : FrV, rank g.kind < 2 → ParOk c f g := fun g h1 => ⟨by rw [hk]; exact h1, fun e => by omega, fun e => by omega⟩
  have hq : PcP c recs f := fun e => by omega
  have hno : LiveOk c recs f := ⟨fun e => by omega, fun e => by omega, fun e => by omega⟩
  unfold r8enterdrain_s
  repeat' split
  all_goals
    dsimp only
    first
    | exact EntP.stop h rfl hno
    | (refine EntP.go h rfl ?_ ?_ (hp _ ?_) hq
       · ((constructor <;> (try dsimp only) <;> first | with_reducible assumption | with_reducible exact (h).a | with_reducible exact (h).b | with_reducible exact (h).d | with_reducible exact (h).i | with_reducible exact (h).j | with_reducible exact (h).n | with_reducible exact (h).t | with_reducible exact bitmap_rg _ | with_reducible exact queue_cap hc _ _ | omega | (unfold Rg; omega) | with_reducible exact rg_wi _ | (intro x hx; cases hx; done) | (intro x hx; rw [List.mem_singleton] at hx; subst hx; with_reducible first | exact (h).n | exact (h).b) | (show ([] : List Int).length ≤ _; exact Nat.zero_le _) | (simp only [List.length_singleton]; omega)))
       · (exact topOk_of (by dsimp only; omega) (by dsimp only; omega) (fun e => by dsimp only at e ⊢; omega))
       · dsimp only; decide)
theorem entWorker (h : FrR K f) (hc : CfgOk c) (hk : f.kind = 25) (hK1 : 1 ≤ K) : EntP K c recs f (r8enterworker_s c f).1 (r8enterworker_s c f).2.1 (r8enterworker_s c f).2.2 := by
  have hw := hc.w1
  have hp : ∀ (g p : FrV), p.kind = 25 → rank g.kind < 4 → ParOk c p g := fun g p hk h1 => ⟨by rw [hk]; exact h1, fun e => by omega, fun e => by omega⟩
  have hq : ∀ p : FrV, p.kind = 25 → PcP c recs p := fun p hk e => by omega
  unfold r8enterworker_s
  simp only [bT, r8runframe_s]
  repeat' split
  all_goals
    dsimp only
    refine EntP.go ?_ rfl ?_ ?_ (hp _ _ hk ?_) (hq _ hk)
    · first | exact h | ((constructor <;> (try dsimp only) <;> first | with_reducible assumption | with_reducible exact (h).a | with_reducible exact (h).b | with_reducible exact (h).d | with_reducible exact (h).i | with_reducible exact (h).j | with_reducible exact (h).n | with_reducible exact (h).t | with_reducible exact (h).l | with_reducible exact (h).ln | with_reducible exact (h).cap | exact rg_wi _ | exact tmod_rg (by omega) (by omega)))
    · ((constructor <;> (try dsimp only) <;> first | with_reducible assumption | with_reducible exact (h).a | with_reducible exact (h).b | with_reducible exact (h).d | with_reducible exact (h).i | with_reducible exact (h).j | with_reducible exact (h).n | with_reducible exact (h).t | with_reducible exact bitmap_rg _ | with_reducible exact queue_cap hc _ _ | omega | (unfold Rg; omega) | with_reducible exact rg_wi _ | (intro x hx; cases hx; done) | (intro x hx; rw [List.mem_singleton] at hx; subst hx; with_reducible first | exact (h).n | exact (h).b) | (show ([] : List Int).length ≤ _; exact Nat.zero_le _) | (simp only [List.length_singleton]; omega)))
    · first
      | (exact topOk_of (by dsimp only; omega) (by dsimp only; omega) (fun e => by dsimp only at e ⊢; omega))
      | exact ⟨fun _ => ⟨by simp, by show (1 : Int) ≠ 3; omega, by show (1 : Int) ≠ 5; omega, fun e => absurd rfl e⟩, fun e => by dsimp only at e; omega, fun e => by dsimp only at e; omega⟩
    · dsimp only; decide
theorem entClient (h : FrR K f) (hc : CfgOk c) (hk : f.kind = 26) (hi : 0 ≤ f.i ∧ f.i ≤ (c.subs.length : Int)) : Good (r8enterclient_s c f) fun o => EntP K c recs f o.1 o.2 f := by
  have hw : Rg c.workers := by have := hc.w1; have := hc.w2; (first | with_reducible assumption | with_reducible exact rg_wi _ | (unfold Rg; omega))
  have hw1 := hc.w1
  have hq : PcP c recs f := fun e => by omega
  have hno : LiveOk c recs f := ⟨fun e => by omega, fun _ => hi, fun e => by omega⟩
  unfold r8enterclient_s
  refine Good.ite (fun _ => .some_ ⟨h, rfl, fun _ => hno, fun e => by cases e⟩) fun h1 => .guard (by omega) fun h2 => ?_
  have hs := hc.sub _ (at_mem h2)
  have hs1 := hs.1
  have hs2 := hs.2.1
  have hp : ∀ g : FrV, rank g.kind < 4 → (f.line = 3 → g.kind = 12) → ParOk c f g := fun g h1 h3 => ⟨by rw [hk]; exact h1, fun e => by omega, fun _ => ⟨h2.1, h2.2, h3⟩⟩
  refine Good.ite (fun _ => .some_ ⟨h, rfl, fun e => (by cases e), fun e => ⟨by ((constructor <;> (try dsimp only) <;> first | with_reducible assumption | with_reducible exact (h).a | with_reducible exact (h).b | with_reducible exact (h).d | with_reducible exact (h).i | with_reducible exact (h).j | with_reducible exact (h).n | with_reducible exact (h).t | with_reducible exact bitmap_rg _ | with_reducible exact queue_cap hc _ _ | omega | (unfold Rg; omega) | with_reducible exact rg_wi _ | (intro x hx; cases hx; done) | (intro x hx; rw [List.mem_singleton] at hx; subst hx; with_reducible first | exact (h).n | exact (h).b) | (show ([] : List Int).length ≤ _; exact Nat.zero_le _) | (simp only [List.length_singleton]; omega))), topOk_of (by dsimp only; omega) (by dsimp only; omega) (fun e => by dsimp only at e; omega), hp _ (by dsimp only; decide) (fun e => by omega), hq⟩⟩) fun _ => ?_
  refine Good.ite (fun _ => .some_ ⟨h, rfl, fun e => (by cases e), fun e => ⟨by ((constructor <;> (try dsimp only) <;> first | with_reducible assumption | with_reducible exact (h).a | with_reducible exact (h).b | with_reducible exact (h).d | with_reducible exact (h).i | with_reducible exact (h).j | with_reducible exact (h).n | with_reducible exact (h).t | with_reducible exact bitmap_rg _ | with_reducible exact queue_cap hc _ _ | omega | (unfold Rg; omega) | with_reducible exact rg_wi _ | (intro x hx; cases hx; done) | (intro x hx; rw [List.mem_singleton] at hx; subst hx; with_reducible first | exact (h).n | exact (h).b) | (show ([] : List Int).length ≤ _; exact Nat.zero_le _) | (simp only [List.length_singleton]; omega))), topOk_of (by dsimp only; omega) (by dsimp only; omega) (fun e => by dsimp only at e; omega), hp _ (by dsimp only; decide) (fun e => rfl), hq⟩⟩) fun _ => ?_
  refine Good.ite (fun _ => .some_ ⟨h, rfl, fun e => (by cases e), fun e => ⟨by ((constructor <;> (try dsimp only) <;> first | with_reducible assumption | with_reducible exact (h).a | with_reducible exact (h).b | with_reducible exact (h).d | with_reducible exact (h).i | with_reducible exact (h).j | with_reducible exact (h).n | with_reducible exact (h).t | with_reducible exact bitmap_rg _ | with_reducible exact queue_cap hc _ _ | omega | (unfold Rg; omega) | with_reducible exact rg_wi _ | (intro x hx; cases hx; done) | (intro x hx; rw [List.mem_singleton] at hx; subst hx; with_reducible first | exact (h).n | exact (h).b) | (show ([] : List Int).length ≤ _; exact Nat.zero_le _) | (simp only [List.length_singleton]; omega))), topOk_of (by dsimp only; omega) (by dsimp only; omega) (fun e => by dsimp only at e; omega), hp _ (by dsimp only; decide) (fun e => by omega), hq⟩⟩) fun _ => ?_
  refine Good.ite (fun _ => .some_ ⟨h, rfl, fun e => (by cases e), fun e => ⟨by ((constructor <;> (try dsimp only) <;> first | with_reducible assumption | with_reducible exact (h).a | with_reducible exact (h).b | with_reducible exact (h).d | with_reducible exact (h).i | with_reducible exact (h).j | with_reducible exact (h).n | with_reducible exact (h).t | with_reducible exact bitmap_rg _ | with_reducible exact queue_cap hc _ _ | omega | (unfold Rg; omega) | with_reducible exact rg_wi _ | (intro x hx; cases hx; done) | (intro x hx; rw [List.mem_singleton] at hx; subst hx; with_reducible first | exact (h).n | exact (h).b) | (show ([] : List Int).length ≤ _; exact Nat.zero_le _) | (simp only [List.length_singleton]; omega))), topOk_of (by dsimp only; omega) (by dsimp only; omega) (fun e => by dsimp only at e; omega), hp _ (by dsimp only; decide) (fun e => by omega), hq⟩⟩) fun _ => ?_
  refine Good.ite (fun _ => .some_ ⟨h, rfl, fun e => (by cases e), fun e => ⟨by ((constructor <;> (try dsimp only) <;> first | with_reducible assumption | with_reducible exact (h).a | with_reducible exact (h).b | with_reducible exact (h).d | with_reducible exact (h).i | with_reducible exact (h).j | with_reducible exact (h).n | with_reducible exact (h).t | with_reducible exact bitmap_rg _ | with_reducible exact queue_cap hc _ _ | omega | (unfold Rg; omega) | with_reducible exact rg_wi _ | (intro x hx; cases hx; done) | (intro x hx; rw [List.mem_singleton] at hx; subst hx; with_reducible first | exact (h).n | exact (h).b) | (show ([] : List Int).length ≤ _; exact Nat.zero_le _) | (simp only [List.length_singleton]; omega))), topOk_of (by dsimp only; omega) (by dsimp only; omega) (fun e => by dsimp only at e; omega), hp _ (by dsimp only; decide) (fun e => by omega), hq⟩⟩) fun _ => ?_
  exact .some_ ⟨h, rfl, fun _ => hno, fun e => by cases e⟩
structure ChP (K : Nat) (c : Cfg) (recs : List RecV) (f g : FrV) : Prop where
  fr : FrR K g
  kind : g.kind = f.kind
  ne : g.l ≠ []
  top : g.line ≠ 23 → 0 ≤ TopL g.l ∧ TopL g.l < c.tasks
  pc : g.line = 3 ∨ g.line = 5 → PcIn c recs (TopL g.l)
theorem choose_good (h : FrR K f) (hr : RcsR K c recs) (ht : RunTop c f) (hc : CfgOk c) (hK : K ≤ 1000000000) : Good (r8choose_s c recs f) (ChP K c recs f) := by
  obtain ⟨hl, h3, h5, htop⟩ := ht
  unfold r8choose_s
  refine Good.ite (fun h1 => .some_ ⟨h, rfl, hl, fun e => htop h1 e, fun e => by omega⟩) fun h1 => ?_
  refine (top_good hl h.ln hK).bind fun t et => ?_
  subst et
  refine Good.ite (fun _ => .some_ ⟨by ((constructor <;> (try dsimp only) <;> first | with_reducible assumption | with_reducible exact (h).a | with_reducible exact (h).b | with_reducible exact (h).d | with_reducible exact (h).i | with_reducible exact (h).j | with_reducible exact (h).n | with_reducible exact (h).t | with_reducible exact (h).l | with_reducible exact (h).ln | with_reducible exact (h).cap | exact rg_wi _ | exact tmod_rg (by omega) (by omega))), rfl, hl, fun e => absurd rfl e, fun e => by dsimp only at e; omega⟩) fun h2 => ?_
  have h2' := task_at (c := c) (recs := recs) (t := TopL f.l) (by simpa using h2) hr
  have hT : 0 ≤ TopL f.l ∧ TopL f.l < c.tasks := by have := hr.1; omega
  have hat := hr.at h2'
  refine .guard h2' fun _ => ?_
  obtain ⟨p, ep, hp⟩ := prog_good hr hT hc
  rw [ep]
  refine (Good.some_ (P := fun q => q = p) rfl).bind fun q e => ?_
  subst e
  refine Good.ite (fun _ => .some_ ⟨by ((constructor <;> (try dsimp only) <;> first | with_reducible assumption | with_reducible exact (h).a | with_reducible exact (h).b | with_reducible exact (h).d | with_reducible exact (h).i | with_reducible exact (h).j | with_reducible exact (h).n | with_reducible exact (h).t | with_reducible exact (h).l | with_reducible exact (h).ln | with_reducible exact (h).cap | exact rg_wi _ | exact tmod_rg (by omega) (by omega))), rfl, hl, fun _ => hT, fun e => by dsimp only at e; omega⟩) fun _ => ?_
  refine Good.ite (fun _ => .some_ ⟨by ((constructor <;> (try dsimp only) <;> first | with_reducible assumption | with_reducible exact (h).a | with_reducible exact (h).b | with_reducible exact (h).d | with_reducible exact (h).i | with_reducible exact (h).j | with_reducible exact (h).n | with_reducible exact (h).t | with_reducible exact (h).l | with_reducible exact (h).ln | with_reducible exact (h).cap | exact rg_wi _ | exact tmod_rg (by omega) (by omega))), rfl, hl, fun _ => hT, fun e => by dsimp only at e; omega⟩) fun hpc => ?_
  have hpc2 : 0 ≤ (at_ recs (TopL f.l)).pc ∧ (at_ recs (TopL f.l)).pc < (q.length : Int) := by omega
  have hP : PcIn c recs (TopL f.l) := ⟨q, ep, hpc2⟩
  refine .guard hpc2 fun _ => ?_
  refine Good.ite (fun _ => .some_ ⟨by ((constructor <;> (try dsimp only) <;> first | with_reducible assumption | with_reducible exact (h).a | with_reducible exact (h).b | with_reducible exact (h).d | with_reducible exact (h).i | with_reducible exact (h).j | with_reducible exact (h).n | with_reducible exact (h).t | with_reducible exact (h).l | with_reducible exact (h).ln | with_reducible exact (h).cap | exact rg_wi _ | exact tmod_rg (by omega) (by omega))), rfl, hl, fun _ => hT, fun _ => hP⟩) fun o0 => ?_
  refine Good.ite (fun _ => .some_ ⟨by ((constructor <;> (try dsimp only) <;> first | with_reducible assumption | with_reducible exact (h).a | with_reducible exact (h).b | with_reducible exact (h).d | with_reducible exact (h).i | with_reducible exact (h).j | with_reducible exact (h).n | with_reducible exact (h).t | with_reducible exact (h).l | with_reducible exact (h).ln | with_reducible exact (h).cap | exact rg_wi _ | exact tmod_rg (by omega) (by omega))), rfl, hl, fun _ => hT, fun _ => hP⟩) fun o1 => ?_
  have ha := (hp _ (at_mem hpc2)).2.2 o0 o1
  refine Good.ite (fun hk => ?_) fun _ => .some_ ⟨by ((constructor <;> (try dsimp only) <;> first | with_reducible assumption | with_reducible exact (h).a | with_reducible exact (h).b | with_reducible exact (h).d | with_reducible exact (h).i | with_reducible exact (h).j | with_reducible exact (h).n | with_reducible exact (h).t | with_reducible exact (h).l | with_reducible exact (h).ln | with_reducible exact (h).cap | exact rg_wi _ | exact tmod_rg (by omega) (by omega))), rfl, hl, fun _ => hT, fun e => by dsimp only at e; omega⟩
  have hk2 := at_mem (xs := (at_ recs (TopL f.l)).kids) (i := (at_ q ((at_ recs (TopL f.l)).pc)).a) ⟨ha, hk⟩
  have hj := hat.2 _ hk2
  refine .guard ⟨ha, hk⟩ fun _ => Good.ite (fun _ => .some_ ⟨by ((constructor <;> (try dsimp only) <;> first | with_reducible assumption | with_reducible exact (h).a | with_reducible exact (h).b | with_reducible exact (h).d | with_reducible exact (h).i | with_reducible exact (h).j | with_reducible exact (h).n | with_reducible exact (h).t | with_reducible exact (h).l | with_reducible exact (h).ln | with_reducible exact (h).cap | exact rg_wi _ | exact tmod_rg (by omega) (by omega))), rfl, hl, fun _ => hT, fun e => by dsimp only at e; omega⟩) fun _ => .some_ ⟨by ((constructor <;> (try dsimp only) <;> first | with_reducible assumption | with_reducible exact (h).a | with_reducible exact (h).b | with_reducible exact (h).d | with_reducible exact (h).i | with_reducible exact (h).j | with_reducible exact (h).n | with_reducible exact (h).t | with_reducible exact (h).l | with_reducible exact (h).ln | with_reducible exact (h).cap | exact rg_wi _ | exact tmod_rg (by omega) (by omega))), rfl, hl, fun _ => hT, fun e => by dsimp only at e; omega⟩
theorem entRun (h : FrR K f) (hr : RcsR K c recs) (ht : RunTop c f) (hk : f.kind = 24) (hc : CfgOk c) (hK : K ≤ 1000000000) : Good (r8enterrun_s c recs f) fun o => EntP K c recs f o.1 o.2.1 o.2.2 := by
  unfold r8enterrun_s
  refine (choose_good h hr ht hc hK).bind fun g hg => ?_
  have hgf := hg.fr
  have hgk : g.kind = 24 := hg.kind.trans hk
  have hp : ∀ ch : FrV, g.line ≠ 23 → g.line ≠ 3 → rank ch.kind < 3 → (g.line = 5 → ch.kind = 12) → ParOk c g ch := fun ch h1 h4 h2 h3 => ⟨by rw [hgk]; exact h2, fun _ => ⟨hg.ne, hg.top h1, h3, h4⟩, fun e => by omega⟩
  have hq : PcP c recs g := fun _ e => hg.pc (.inr e)
  have hno : LiveOk c recs g := ⟨fun _ => ⟨hg.ne, hg.top, fun e => hg.pc (.inl e)⟩, fun e => by omega, fun e => by omega⟩
  repeat' (with_reducible refine Good.ite (fun _ => ?_) (fun _ => ?_))
  all_goals
    refine .some_ ?_
    dsimp only
    first
    | exact EntP.stop hgf hg.kind hno
    | (refine EntP.go hgf hg.kind ?_ ?_ (hp _ (by omega) (by omega) (by dsimp only; decide) ?_) hq
       · ((constructor <;> (try dsimp only) <;> first | with_reducible assumption | with_reducible exact (hgf).a | with_reducible exact (hgf).b | with_reducible exact (hgf).d | with_reducible exact (hgf).i | with_reducible exact (hgf).j | with_reducible exact (hgf).n | with_reducible exact (hgf).t | with_reducible exact bitmap_rg _ | with_reducible exact queue_cap hc _ _ | omega | (unfold Rg; omega) | with_reducible exact rg_wi _ | (intro x hx; cases hx; done) | (intro x hx; rw [List.mem_singleton] at hx; subst hx; with_reducible first | exact (hgf).n | exact (hgf).b) | (show ([] : List Int).length ≤ _; exact Nat.zero_le _) | (simp only [List.length_singleton]; omega)))
       · (exact topOk_of (by dsimp only; omega) (by dsimp only; omega) (fun e => by dsimp only at e ⊢; omega))
       · first | (intro _; rfl) | (intro e; omega))
theorem enter_good (h : FrR K f) (hr : RcsR K c recs) (ht : TopOk c f) (hc : CfgOk c) (hK : K ≤ 1000000000) (hK1 : 1 ≤ K) : Good (r8enter_s c recs f) fun o => EntP K c recs f o.1 o.2.1 o.2.2 := by
  have hp : f.kind ≠ 24 → f.kind ≠ 26 → ∀ ch : FrV, rank ch.kind < rank f.kind → ParOk c f ch := fun h4 h6 ch hh => ⟨hh, fun e => absurd e h4, fun e => absurd e h6⟩
  have hq : f.kind ≠ 24 → PcP c recs f := fun h4 e => absurd e h4
  have hno : f.kind ≠ 24 → LiveOk c recs f := fun h4 => ⟨fun e => absurd e h4, ht.cl, ht.pr⟩
  unfold r8enter_s
  refine Good.ite (fun hk => ?_) fun _ => Good.ite (fun hk => ?_) fun _ => Good.ite (fun hk => ?_) fun _ => Good.ite (fun hk => ?_) fun _ => Good.ite (fun hk => ?_) fun _ => Good.ite (fun hk => ?_) fun _ => Good.ite (fun hk => ?_) fun _ => Good.ite (fun hk => ?_) fun h24 => Good.ite (fun hk => ?_) fun _ => Good.ite (fun hk => ?_) fun _ => ?_
  case refine_6 => exact Good.bT fun r e => .some_ (by subst e; exact entDrain h hc hk)
  case refine_8 => exact (entRun h hr (ht.run hk) hk hc hK).bind fun o ho => .some_ ho
  case refine_9 => exact Good.bT fun r e => .some_ (by subst e; exact entWorker h hc hk hK1)
  case refine_10 => exact (entClient h hc hk (ht.cl hk)).bind fun o ho => .some_ ho
  case refine_11 => exact .some_ (EntP.stop h rfl (hno h24))
  all_goals
    have hpp := hp (by omega) (by omega)
    rw [hk] at hpp
    have hqq := hq (by omega)
    have hnn := hno (by omega)
    repeat' (with_reducible refine Good.ite (fun _ => ?_) (fun _ => ?_))
  all_goals
    refine .some_ ?_
    dsimp only
    first
    | exact EntP.stop h rfl hnn
    | (refine EntP.go h rfl ?_ ?_ (hpp _ (by dsimp only; decide)) hqq
       · first | ((constructor <;> (try dsimp only) <;> first | with_reducible assumption | with_reducible exact (h).a | with_reducible exact (h).b | with_reducible exact (h).d | with_reducible exact (h).i | with_reducible exact (h).j | with_reducible exact (h).n | with_reducible exact (h).t | with_reducible exact bitmap_rg _ | with_reducible exact queue_cap hc _ _ | omega | (unfold Rg; omega) | with_reducible exact rg_wi _ | (intro x hx; cases hx; done) | (intro x hx; rw [List.mem_singleton] at hx; subst hx; with_reducible first | exact (h).n | exact (h).b) | (show ([] : List Int).length ≤ _; exact Nat.zero_le _) | (simp only [List.length_singleton]; omega))) | (constructor <;> (try dsimp only) <;> first | with_reducible exact h.a | with_reducible exact h.b | with_reducible exact h.d | (first | with_reducible assumption | with_reducible exact rg_wi _ | (unfold Rg; omega)) | omega | (intro x hx; cases hx; done) | exact Nat.zero_le _)
       · (exact topOk_of (by dsimp only; omega) (by dsimp only; omega) (fun e => by dsimp only at e ⊢; omega)))
end
end
end Go.Proofs.YtpbkelpokpglaaaGreat
