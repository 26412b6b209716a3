/- Plain safety of scripts and configurations. Plain safety of configurations: what is decoded is valid. What is decoded is valid. -/
import Derived.Test.YtpbkelpokpglaaaGreatQv
import Derived.Test.YtpbkelpokpglaaaGreatQq
set_option linter.all false
namespace Go.Proofs.YtpbkelpokpglaaaGreat
section
open Go
theorem lp_good {σ β : Type} {F : (σ → Option β) → σ → Option β} (I : σ → Prop) (μ : σ → Nat) {P : β → Prop} (step : ∀ self x, I x → (∀ y, I y → μ y < μ x → Good (self y) P) → Good (F self x) P) : ∀ k x, I x → μ x < k → Good (lpF F k x) P
  | 0, x, _, h => by omega
  | k + 1, x, hx, h => step (lpF F k) x hx fun y hy hlt => lp_good I μ step k y hy (by omega)
theorem Good.agr {α : Type} {x y : Option α} {P : α → Prop} (h1 : Good x P) (h2 : x = y) : Good (agr x y) P := by subst h2; rw [agr_self]; exact h1
theorem number_good {l : List Int} {i n : Int} (h : l.length ≤ 1000000) (hi : 0 ≤ i) (hi2 : i ≤ 1000000000) : Good (knumber l i n) fun o => o.1.1 = drawV (wi (Int.tdiv (atK1 l (Int.tmod i l.length)) (wi (1 + Int.tmod (wi (Int.tdiv i l.length)) 7)))) n ∨ (l = [] ∧ o.1.1 = 0) := by
  unfold knumber
  refine Good.ite (fun h0 => .some_ (.inr ⟨List.length_eq_zero_iff.1 (by omega), rfl⟩)) fun h0 => ?_
  have h1 := Int.tmod_nonneg (b := (l.length : Int)) (a := i) (by omega)
  have h2 := Int.tmod_lt_of_pos i (b := (l.length : Int)) (by omega)
  have h3 : 0 ≤ Int.tdiv i (l.length : Int) := Int.tdiv_nonneg hi (by omega)
  have h4 : Int.tdiv i (l.length : Int) ≤ i := Int.tdiv_le_self _ hi
  have h5 : wi (Int.tdiv i (l.length : Int)) = Int.tdiv i (l.length : Int) := wi_id (rg_lit (by omega))
  have h6 := tmod_lt (a := Int.tdiv i (l.length : Int)) (b := 7) (by omega) (by omega)
  have h7 : wi (1 + Int.tmod (wi (Int.tdiv i (l.length : Int))) 7) = 1 + Int.tmod (Int.tdiv i (l.length : Int)) 7 := by rw [h5]; exact wi_id (rg_lit (by omega))
  refine .guard h0 fun _ => .guard (by omega) fun _ => .guard h0 fun _ => .guard (by rw [h7]; omega) fun _ => ?_
  rw [r2draw_eq]
  exact .some_ (.inl rfl)
theorem number_rg {l : List Int} {i n : Int} (h : l.length ≤ 1000000) (hi : 0 ≤ i) (hi2 : i ≤ 1000000000) (h1 : 1 ≤ n) (h2 : n ≤ 1000000000) : Good (knumber l i n) fun o => 0 ≤ o.1.1 ∧ o.1.1 < n := by
  refine (number_good h hi hi2).mono fun o ho => ?_
  rcases ho with e | ⟨_, e⟩
  · rw [e]; exact drawV_rg h1 (by omega)
  · rw [e]; omega
theorem insert_good {l : List EntV} {v : EntV} {i : Int} (hl : l.length ≤ 1000000) (hi : 0 ≤ i ∧ i ≤ (l.length : Int)) (hv : Rg v.value) (hr : ∀ u ∈ l, Rg u.value) : Good (kinsert l v i) fun o => o.1.1.length = l.length + 1 ∧ ∀ u ∈ o.1.1, Rg u.value := by
  unfold kinsert
  refine .guard hi fun _ => .guard (by simp; omega) fun _ => .guard (by simp; omega) fun _ => .guard hi fun _ => .guard (by simp; omega) fun _ => .some_ ⟨by simp; omega, fun u hu => ?_⟩
  simp only [List.nil_append, List.mem_append, List.mem_singleton] at hu
  rcases hu with (hu | rfl) | hu
  · exact hr u (List.mem_of_mem_take hu)
  · exact hv
  · exact hr u (List.mem_of_mem_drop hu)
/-- A list of entries with values in range. -/
def EnsR (K : Nat) (l : List EntV) : Prop := l.length ≤ K ∧ ∀ v ∈ l, Rg v.value
theorem round_good {raw : List Int} {at_ n : Int} (h : raw.length ≤ 1000000) (ha : 0 ≤ at_) (ha2 : at_ ≤ 1000000) (h1 : 1 ≤ n) (h2 : n ≤ 100) : Good (kround raw at_ n) fun o => EnsR (n.toNat + 3) o.1.1 := by
  unfold kround
  refine Good.bind (P := fun z => (z.1.length : Int) = n ∧ ∀ v ∈ z.1, Rg v.value) (lp_good (fun x => 0 ≤ x.2.1 ∧ x.2.1 ≤ n ∧ (x.1.length : Int) = x.2.1 ∧ ∀ v ∈ x.1, Rg v.value) (fun x => (n - x.2.1).toNat) (fun self x ⟨q0, q1, q2, q3⟩ ih => ?_) _ _ ⟨Int.le_refl 0, by show (0 : Int) ≤ n; omega, rfl, fun v hv => by cases hv⟩ (by show (n - 0).toNat < _; omega)) fun z hz => ?_
  rotate_left
  · refine Good.ite (fun hlt => ?_) fun hlt => .some_ ⟨by show (x.1.length : Int) = n; omega, q3⟩
    have e1 : wi (at_ + x.2.1) = at_ + x.2.1 := wi_id (rg_lit (by omega))
    have e2 : wi (x.2.1 + 1) = x.2.1 + 1 := wi_id (rg_lit (by omega))
    rw [show kpick x.2.1 = some (((⟨0, x.2.1⟩ : EntV), ()), ()) from rfl, Option.bind_some, e1, e2]
    refine (number_rg h (by omega) (by omega) (by omega) (by omega)).bind fun r hr => ?_
    refine (insert_good (by omega) ⟨hr.1, by omega⟩ (rg_lit (x := x.2.1) (by omega)) q3).bind fun o ho => ?_
    exact ih _ ⟨by show 0 ≤ x.2.1 + 1; omega, by show x.2.1 + 1 ≤ n; omega, by show (o.1.1.length : Int) = x.2.1 + 1; omega, ho.2⟩ (by show (n - (x.2.1 + 1)).toNat < (n - x.2.1).toNat; omega)
  have e1 : wi (at_ + n) = at_ + n := wi_id (rg_lit (by omega))
  have e2 : wi (n + 1) = n + 1 := wi_id (rg_lit (by omega))
  have e3 : wi (at_ + n + 1) = at_ + n + 1 := wi_id (rg_lit (by omega))
  rw [e1, e2, e3]
  refine (number_rg h (by omega) (by omega) (by omega) (by omega)).bind fun r7 hr7 => ?_
  refine (insert_good (by omega) ⟨hr7.1, by omega⟩ (rg_lit (by decide)) hz.2).bind fun r8 hr8 => ?_
  refine (number_rg (n := 3) h (by omega) (by omega) (by decide) (by decide)).bind fun r9 hr9 => ?_
  refine Good.bind (P := fun z => EnsR (n.toNat + 3) z.1) (lp_good (fun x => 0 ≤ x.2.1 ∧ x.2.1 ≤ 2 ∧ (x.1.length : Int) + x.2.1 ≤ n + 3 ∧ n + 1 ≤ (x.1.length : Int) ∧ ∀ v ∈ x.1, Rg v.value) (fun x => x.2.1.toNat) (fun self x ⟨q0, q1, q2, q4, q3⟩ ih => ?_) _ _ ⟨hr9.1, by show r9.1.1 ≤ 2; omega, by show (r8.1.1.length : Int) + r9.1.1 ≤ n + 3; omega, by show n + 1 ≤ (r8.1.1.length : Int); omega, hr8.2⟩ (by show r9.1.1.toNat < _; omega)) fun z hz => .some_ hz
  refine Good.ite (fun hlt => ?_) fun hlt => .some_ ⟨by show x.1.length ≤ n.toNat + 3; omega, q3⟩
  have f1 : wi (at_ + n + x.2.1) = at_ + n + x.2.1 := wi_id (rg_lit (by omega))
  have f2 : wi (at_ + x.2.1) = at_ + x.2.1 := wi_id (rg_lit (by omega))
  have f3 : wi ((x.1.length : Int) + 1) = (x.1.length : Int) + 1 := wi_id (rg_lit (by omega))
  have f4 : wi (x.2.1 - 1) = x.2.1 - 1 := wi_id (rg_lit (by omega))
  rw [f1, f2, f3, f4]
  refine (number_rg h (by omega) (by omega) (by omega) (by omega)).bind fun r13 hr13 => ?_
  rw [show kpick r13.1.1 = some (((⟨0, r13.1.1⟩ : EntV), ()), ()) from rfl, Option.bind_some]
  refine (number_rg h (by omega) (by omega) (by omega) (by omega)).bind fun r15 hr15 => ?_
  refine (insert_good (by omega) ⟨hr15.1, by omega⟩ (rg_lit (x := r13.1.1) (by omega)) q3).bind fun o ho => ?_
  exact ih _ ⟨by show 0 ≤ x.2.1 - 1; omega, by show x.2.1 - 1 ≤ 2; omega, by show (o.1.1.length : Int) + (x.2.1 - 1) ≤ n + 3; omega, by show n + 1 ≤ (o.1.1.length : Int); omega, ho.2⟩ (by show (x.2.1 - 1).toNat < x.2.1.toNat; omega)
theorem r4_good {b : List Int} (hb : b.length ≤ 1000000) : Good (r4decode b) fun o => EnsR 65536 o.1.1 := by
  unfold r4decode
  refine Good.bind (P := fun z => EnsR 65536 z.1) (lp_good (fun x => 0 ≤ x.2.1 ∧ x.2.1 ≤ (b.length : Int) + 2 ∧ x.1.length ≤ 65536 ∧ ∀ v ∈ x.1, Rg v.value) (fun x => ((b.length : Int) + 2 - x.2.1).toNat) (fun self x ⟨q0, q1, q2, q3⟩ ih => ?_) _ _ ⟨Int.le_refl 0, by show (0 : Int) ≤ (b.length : Int) + 2; omega, Nat.zero_le _, fun v hv => by cases hv⟩ (by show ((b.length : Int) + 2 - 0).toNat < _; omega)) fun z hz => .some_ hz
  have e1 : wi (x.2.1 + 1) = x.2.1 + 1 := wi_id (rg_lit (by omega))
  have e2 : wi (x.2.1 + 2) = x.2.1 + 2 := wi_id (rg_lit (by omega))
  rw [e1, e2]
  refine Good.ite (fun h1 => Good.ite (fun h2 => .guard (by omega) fun _ => .guard (by omega) fun _ => .guard rfl fun _ => .guard rfl fun _ => ?_) fun _ => .some_ ⟨q2, q3⟩) fun _ => .some_ ⟨q2, q3⟩
  have nx : ∀ u : EntV, Rg u.value → Good (self (x.1 ++ [u], x.2.1 + 2, ())) fun z => EnsR 65536 z.1 := fun u hu => ih _ ⟨by show 0 ≤ x.2.1 + 2; omega, by show x.2.1 + 2 ≤ (b.length : Int) + 2; omega, by simp; omega, fun v hv => by
    rcases List.mem_append.1 hv with hv | hv
    · exact q3 v hv
    · rw [List.mem_singleton] at hv; subst hv; exact hu⟩ (by show ((b.length : Int) + 2 - (x.2.1 + 2)).toNat < ((b.length : Int) + 2 - x.2.1).toNat; omega)
  refine Good.ite (fun _ => .guard (by simp; omega) fun _ => nx _ rg0) fun _ => Good.ite (fun _ => .guard (by simp; omega) fun _ => nx _ rg0) fun _ => .guard (by simp; omega) fun _ => nx _ (rg_wi _)
theorem script_good {b : List Int} {n : Int} (hb : b.length ≤ 1000000) (hn : 0 ≤ n) : Good (kscript b n) fun o => EnsR n.toNat o.1.1 := by
  unfold kscript
  refine (r4_good hb).bind fun r hr => Good.ite (fun h => .guard (by omega) fun _ => .some_ ⟨by show (r.1.1.take n.toNat).length ≤ n.toNat; simp; omega, fun v hv => hr.2 v (List.mem_of_mem_take hv)⟩) fun h => .some_ ⟨by show r.1.1.length ≤ n.toNat; omega, hr.2⟩
theorem short_good (b : List Int) (l : List (List Int)) (hl : l.length ≤ 1000000) : Good (kshort b l) fun o => o.1.1 = true → b.length ≤ 400 ∧ ∀ x ∈ l, x.length ≤ 400 := by
  unfold kshort
  refine Good.bind (P := fun z => (∀ o, z = .inr o → o.1.1 = false) ∧ (∀ y, z = .inl y → ∀ x ∈ l, x.length ≤ 400)) (lp_good (fun x => 0 ≤ x.1 ∧ x.1 ≤ (l.length : Int) ∧ ∀ i : Nat, (i : Int) < x.1 → ∀ y, l[i]? = some y → y.length ≤ 400) (fun x => ((l.length : Int) - x.1).toNat) (fun self x ⟨q0, q1, q2⟩ ih => ?_) _ _ ⟨Int.le_refl 0, by show (0 : Int) ≤ (l.length : Int); omega, fun i hi => by omega⟩ (by show ((l.length : Int) - 0).toNat < _; omega)) fun z hz => ?_
  rotate_left
  · have e2 : wi (x.1 + 1) = x.1 + 1 := wi_id (rg_lit (by omega))
    rw [e2]
    refine Good.ite (fun hlt => .guard ⟨q0, hlt⟩ fun _ => Good.ite (fun _ => .some_ ⟨fun o e => (by cases e; rfl), fun y e => (by cases e)⟩) fun h4 => ih _ ⟨by show 0 ≤ x.1 + 1; omega, by show x.1 + 1 ≤ (l.length : Int); omega, fun i hi y hy => ?_⟩ (by show ((l.length : Int) - (x.1 + 1)).toNat < ((l.length : Int) - x.1).toNat; omega)) fun hlt => .some_ ⟨fun o e => (by cases e), fun y e x' hx' => ?_⟩
    · by_cases hi2 : (i : Int) < x.1
      · exact q2 i hi2 y hy
      · have hi3 : i = x.1.toNat := by have : (i : Int) < x.1 + 1 := hi; omega
        have h5 := atL_get (d := ([] : List Int)) (xs := l) (i := x.1) ⟨q0, hlt⟩
        rw [hi3, h5] at hy
        cases hy
        omega
    · obtain ⟨i, hi, rfl⟩ := List.getElem_of_mem hx'
      exact q2 i (by omega) _ (List.getElem?_eq_getElem hi)
  · rcases z with y | o
    · refine .some_ fun e => ⟨?_, hz.2 y rfl⟩
      have : ((b.length : Nat) : Int) ≤ 400 := of_decide_eq_true e
      omega
    · exact .some_ fun e => by rw [hz.1 o rfl] at e; cases e
end
section
open Go
structure DecOk (c : Cfg) : Prop where
  w : 1 ≤ c.workers ∧ c.workers ≤ 4
  l : 1 ≤ c.levels ∧ c.levels ≤ 4
  k : 1 ≤ c.classes ∧ c.classes ≤ 3 ∧ c.classes ≤ c.levels
  t : 1 ≤ c.tasks ∧ c.tasks ≤ 12
  q : 1 ≤ c.deque ∧ c.deque ≤ 4
  h : 1 ≤ c.heap ∧ c.heap ≤ 4
  b : 1 ≤ c.batch ∧ c.batch ≤ c.deque
  a : 0 ≤ c.age ∧ c.age ≤ 5
  p : 1 ≤ c.patience ∧ c.patience ≤ 8
  pn : 1 ≤ c.progs.length ∧ c.progs.length ≤ 4
  pl : ∀ x ∈ c.progs, x.length ≤ 5
  ps : ∀ x ∈ c.progs, ∀ i ∈ x, (i.op = 0 ∧ 1 ≤ i.a ∧ i.a ≤ 4 ∧ i.b = 0) ∨ (i.op = 1 ∧ 0 ≤ i.a ∧ i.a < (c.progs.length : Int) ∧ 0 ≤ i.b ∧ i.b < c.levels) ∨ (i.op = 2 ∧ 0 ≤ i.a ∧ i.a ≤ 3 ∧ i.b = 0)
  sn : c.subs.length ≤ 5
  ss : ∀ s ∈ c.subs, (0 ≤ s.prog ∧ s.prog < (c.progs.length : Int)) ∧ (0 ≤ s.level ∧ s.level < c.levels) ∧ 0 ≤ s.deadline ∧ s.deadline ≤ 15
/-- The bytes of a coder are bytes, its place is near. -/
structure CodOk (N : Int) (r : CodV) : Prop where
  by_ : ∀ x ∈ r.inn, 0 ≤ x ∧ x ≤ 255
  ln : r.inn.length ≤ 1000000
  at_ : 0 ≤ r.at_ ∧ r.at_ ≤ N
theorem num_good {N : Int} {r : CodV} {k : Int} (h : CodOk N r) (hN : N ≤ 1000000) (h1 : 1 ≤ k) (h2 : k ≤ 1000) : Good (r5number r k) fun o => (0 ≤ o.1.1 ∧ o.1.1 < k) ∧ CodOk (N + 1) o.2.1 := by
  have ha := h.at_
  have e1 : wi (r.at_ + 1) = r.at_ + 1 := wi_id (rg_lit (by omega))
  unfold r5number
  rw [e1]
  refine Good.ite (fun hlt => .guard ⟨ha.1, hlt⟩ fun _ => .guard (by omega) fun _ => .some_ ⟨?_, h.by_, h.ln, by show 0 ≤ r.at_ + 1; omega, by show r.at_ + 1 ≤ N + 1; omega⟩) fun _ => .some_ ⟨⟨Int.le_refl 0, by show (0 : Int) < k; omega⟩, h.by_, h.ln, by show 0 ≤ r.at_ + 1; omega, by show r.at_ + 1 ≤ N + 1; omega⟩
  have hb := h.by_ _ (at_in (d := dfR 17) (xs := r.inn) (i := r.at_) ⟨ha.1, hlt⟩)
  have e2 : wi (atK17 r.inn r.at_) = atK17 r.inn r.at_ := wi_id (rg_lit (x := atK17 r.inn r.at_) ⟨by have := hb.1; exact Int.le_trans (by decide) this, by have := hb.2; exact Int.le_trans this (by decide)⟩)
  rw [e2]
  exact tmod_lt h1 hb.1
theorem CodOk.up {N M : Int} {r : CodV} (h : CodOk N r) (hl : N ≤ M) : CodOk M r := ⟨h.by_, h.ln, h.at_.1, by have := h.at_; omega⟩
def InsOk (n lv : Int) (i : Ins) : Prop := (i.op = 0 ∧ 1 ≤ i.a ∧ i.a ≤ 4 ∧ i.b = 0) ∨ (i.op = 1 ∧ 0 ≤ i.a ∧ i.a < n ∧ 0 ≤ i.b ∧ i.b < lv) ∨ (i.op = 2 ∧ 0 ≤ i.a ∧ i.a ≤ 3 ∧ i.b = 0)
def SubOk (n lv : Int) (s : Sub) : Prop := (0 ≤ s.prog ∧ s.prog < n) ∧ (0 ≤ s.level ∧ s.level < lv) ∧ 0 ≤ s.deadline ∧ s.deadline ≤ 15
/-- The numbers of a configuration under construction. -/
structure NumOk (c : Cfg) : Prop where
  w : 1 ≤ c.workers ∧ c.workers ≤ 4
  l : 1 ≤ c.levels ∧ c.levels ≤ 4
  k : 1 ≤ c.classes ∧ c.classes ≤ 3 ∧ c.classes ≤ c.levels
  t : 1 ≤ c.tasks ∧ c.tasks ≤ 12
  q : 1 ≤ c.deque ∧ c.deque ≤ 4
  h : 1 ≤ c.heap ∧ c.heap ≤ 4
  b : 1 ≤ c.batch ∧ c.batch ≤ c.deque
  a : 0 ≤ c.age ∧ c.age ≤ 5
  p : 1 ≤ c.patience ∧ c.patience ≤ 8
theorem w1p {x : Int} (h : 0 ≤ x) (h2 : x ≤ 1000000) : wi (1 + x) = 1 + x := wi_id (rg_lit (by omega))
theorem decode_good {b : List Int} (hb : ∀ x ∈ b, 0 ≤ x ∧ x ≤ 255) (hl : b.length ≤ 1000000) : Good (r5decode b) fun o => DecOk o.1.1 := by
  unfold r5decode
  refine (num_good (N := 0) (k := 4) ⟨hb, hl, Int.le_refl 0, Int.le_refl 0⟩ (by decide) (by decide) (by decide)).bind fun r1 h1 => ?_
  refine (num_good (k := 4) h1.2 (by decide) (by decide) (by decide)).bind fun r2 h2 => ?_
  have w1 := w1p h1.1.1 (by omega)
  have w2 := w1p h2.1.1 (by omega)
  rw [w1, w2]
  refine (num_good h2.2 (by decide) (by split <;> omega) (by split <;> omega)).bind fun r3 h3 => ?_
  refine (num_good (k := 12) h3.2 (by decide) (by decide) (by decide)).bind fun r4 h4 => ?_
  refine (num_good (k := 4) h4.2 (by decide) (by decide) (by decide)).bind fun r5 h5 => ?_
  refine (num_good (k := 4) h5.2 (by decide) (by decide) (by decide)).bind fun r6 h6 => ?_
  have h3' : r3.1.1 < 3 ∧ r3.1.1 < 1 + r2.1.1 := by
    have := h3.1.2
    split at this <;> omega
  have w3 := w1p h3.1.1 (by omega)
  have w4 := w1p h4.1.1 (by omega)
  have w5 := w1p h5.1.1 (by omega)
  have w6 := w1p h6.1.1 (by omega)
  rw [w3, w4, w5, w6]
  refine (num_good h6.2 (by decide) (by omega) (by omega)).bind fun r7 h7 => ?_
  refine (num_good (k := 6) h7.2 (by decide) (by decide) (by decide)).bind fun r8 h8 => ?_
  refine (num_good (k := 8) h8.2 (by decide) (by decide) (by decide)).bind fun r9 h9 => ?_
  refine (num_good (k := 4) h9.2 (by decide) (by decide) (by decide)).bind fun r10 h10 => ?_
  have w7 := w1p h7.1.1 (by omega)
  have w9 := w1p h9.1.1 (by omega)
  have w10 := w1p h10.1.1 (by omega)
  rw [w7, w9, w10]
  refine Good.bind (P := fun z => CodOk 1000 z.2.1 ∧ NumOk z.2.2.1 ∧ z.2.2.1.levels = 1 + r2.1.1 ∧ (z.2.2.1.progs.length : Int) = 1 + r10.1.1 ∧ (∀ p ∈ z.2.2.1.progs, p.length ≤ 5 ∧ ∀ i ∈ p, InsOk (1 + r10.1.1) (1 + r2.1.1) i) ∧ z.2.2.1.subs = [])
    (lp_good (fun x => 0 ≤ x.1 ∧ x.1 ≤ 1 + r10.1.1 ∧ CodOk (10 + 30 * x.1) x.2.1 ∧ NumOk x.2.2.1 ∧ x.2.2.1.levels = 1 + r2.1.1 ∧ (x.2.2.1.progs.length : Int) = x.1 ∧ (∀ p ∈ x.2.2.1.progs, p.length ≤ 5 ∧ ∀ i ∈ p, InsOk (1 + r10.1.1) (1 + r2.1.1) i) ∧ x.2.2.1.subs = [])
      (fun x => (1 + r10.1.1 - x.1).toNat) (fun self x ⟨q0, q1, q2, q3, q4, q5, q6, q7⟩ ih => ?step) _ _ ⟨Int.le_refl 0, by show (0 : Int) ≤ 1 + r10.1.1; omega, h10.2, ?num, rfl, rfl, fun p hp => (by cases hp), rfl⟩ (by show (1 + r10.1.1 - 0).toNat < _; omega)) fun z hz => ?cont
  case step =>
    have f1 : wi (x.1 + 1) = x.1 + 1 := wi_id (rg_lit (by omega))
    refine Good.ite (fun hlt => ?_) fun hlt => .some_ ⟨q2.up (by omega), q3, q4, by show (x.2.2.1.progs.length : Int) = _; omega, q6, q7⟩
    have hlen : (x.2.2.1.progs.length : Int) < 10 := by omega
    rw [f1]
    refine (num_good (k := 6) q2 (by omega) (by decide) (by decide)).bind fun r14 h14 => ?_
    refine Good.bind (P := fun z => z.1.length ≤ 5 ∧ (∀ i ∈ z.1, InsOk (1 + r10.1.1) (1 + r2.1.1) i) ∧ CodOk (10 + 30 * x.1 + 26) z.2.2.1)
      (lp_good (fun y => 0 ≤ y.2.1 ∧ (y.1.length : Int) + y.2.1 = r14.1.1 ∧ CodOk (10 + 30 * x.1 + 1 + 5 * (r14.1.1 - y.2.1)) y.2.2.1 ∧ ∀ i ∈ y.1, InsOk (1 + r10.1.1) (1 + r2.1.1) i)
        (fun y => y.2.1.toNat) (fun self y ⟨p0, p1, p2, p3⟩ ih => ?_) _ _ ⟨h14.1.1, by show ((0 : Nat) : Int) + r14.1.1 = _; omega, h14.2.up (by show 10 + 30 * x.1 + 1 ≤ 10 + 30 * x.1 + 1 + 5 * (r14.1.1 - r14.1.1); omega), fun i hi => (by cases hi)⟩ (by show r14.1.1.toNat < _; omega)) fun z hz => ?_
    · refine .guard (by show (((x.2.2.1.progs.length + 1 : Nat)) : Int) < _; omega) fun _ => ih _ ⟨by show 0 ≤ x.1 + 1; omega, by show x.1 + 1 ≤ _; omega, hz.2.2.up (by show 10 + 30 * x.1 + 26 ≤ 10 + 30 * (x.1 + 1); omega), ⟨q3.w, q3.l, q3.k, q3.t, q3.q, q3.h, q3.b, q3.a, q3.p⟩, q4, ?_, ?_, q7⟩ ?_
      · show (((x.2.2.1.progs ++ [z.1]).length : Nat) : Int) = x.1 + 1
        rw [List.length_append, List.length_singleton]; omega
      · intro p hp
        rcases List.mem_append.1 hp with hp | hp
        · exact q6 p hp
        · rw [List.mem_singleton] at hp; subst hp; exact ⟨hz.1, hz.2.1⟩
      · show (1 + r10.1.1 - (x.1 + 1)).toNat < (1 + r10.1.1 - x.1).toNat
        omega
    · have f2 : wi (y.2.1 - 1) = y.2.1 - 1 := wi_id (rg_lit (by omega))
      have hyl : y.1.length ≤ 5 := by omega
      refine Good.ite (fun hlt2 => ?_) fun hlt2 => .some_ ⟨hyl, p3, p2.up (by omega)⟩
      rw [f2, q4]
      have nx : ∀ (u : Ins) (r : CodV), InsOk (1 + r10.1.1) (1 + r2.1.1) u → CodOk (10 + 30 * x.1 + 1 + 5 * (r14.1.1 - (y.2.1 - 1))) r → Good (if (((y.1.length + ([u] : List Ins).length : Nat)) : Int) < 1000000000000 then self (y.1 ++ [u], y.2.1 - 1, r, ()) else none) fun z => z.1.length ≤ 5 ∧ (∀ i ∈ z.1, InsOk (1 + r10.1.1) (1 + r2.1.1) i) ∧ CodOk (10 + 30 * x.1 + 26) z.2.2.1 := fun u r hu hr =>
        .guard (by show (((y.1.length + 1 : Nat)) : Int) < _; omega) fun _ => ih _ ⟨by show 0 ≤ y.2.1 - 1; omega, by
          show (((y.1 ++ [u]).length : Nat) : Int) + (y.2.1 - 1) = _
          rw [List.length_append, List.length_singleton]; omega, hr, fun i hi => by
          rcases List.mem_append.1 hi with hi | hi
          · exact p3 i hi
          · rw [List.mem_singleton] at hi; subst hi; exact hu⟩ (by show (y.2.1 - 1).toNat < y.2.1.toNat; omega)
      refine (num_good (k := 3) p2 (by omega) (by decide) (by decide)).bind fun r18 h18 => ?_
      refine Good.ite (fun e0 => ?_) fun e0 => Good.ite (fun e1 => ?_) fun e1 => ?_
      · refine (num_good (k := 4) h18.2 (by omega) (by decide) (by decide)).bind fun r19 h19 => ?_
        rw [w1p h19.1.1 (by omega)]
        exact nx _ _ (.inl ⟨e0, by show 1 ≤ 1 + r19.1.1; omega, by show 1 + r19.1.1 ≤ 4; omega, rfl⟩) (h19.2.up (by omega))
      · refine (num_good (k := 1 + r10.1.1) h18.2 (by omega) (by omega) (by omega)).bind fun r20 h20 => ?_
        refine (num_good (k := 1 + r2.1.1) h20.2 (by omega) (by omega) (by omega)).bind fun r21 h21 => ?_
        exact nx _ _ (.inr (.inl ⟨e1, h20.1.1, h20.1.2, h21.1.1, h21.1.2⟩)) (h21.2.up (by omega))
      · refine (num_good (k := 4) h18.2 (by omega) (by decide) (by decide)).bind fun r22 h22 => ?_
        exact nx _ _ (.inr (.inr ⟨by show r18.1.1 = 2; omega, h22.1.1, by show r22.1.1 ≤ 3; omega, rfl⟩)) (h22.2.up (by omega))
  case num =>
    refine ⟨?_, ?_, ?_, ?_, ?_, ?_, ?_, ?_, ?_⟩
    · exact ⟨by show 1 ≤ 1 + r1.1.1; omega, by show 1 + r1.1.1 ≤ 4; omega⟩
    · exact ⟨by show 1 ≤ 1 + r2.1.1; omega, by show 1 + r2.1.1 ≤ 4; omega⟩
    · exact ⟨by show 1 ≤ 1 + r3.1.1; omega, by show 1 + r3.1.1 ≤ 3; omega, by show 1 + r3.1.1 ≤ 1 + r2.1.1; omega⟩
    · exact ⟨by show 1 ≤ 1 + r4.1.1; omega, by show 1 + r4.1.1 ≤ 12; omega⟩
    · exact ⟨by show 1 ≤ 1 + r5.1.1; omega, by show 1 + r5.1.1 ≤ 4; omega⟩
    · exact ⟨by show 1 ≤ 1 + r6.1.1; omega, by show 1 + r6.1.1 ≤ 4; omega⟩
    · exact ⟨by show 1 ≤ 1 + r7.1.1; omega, by show 1 + r7.1.1 ≤ 1 + r5.1.1; omega⟩
    · exact ⟨h8.1.1, by show r8.1.1 ≤ 5; omega⟩
    · exact ⟨by show 1 ≤ 1 + r9.1.1; omega, by show 1 + r9.1.1 ≤ 8; omega⟩
  case cont =>
    obtain ⟨g1, g2, g3, g4, g5, g6⟩ := hz
    refine (num_good (k := 6) g1 (by decide) (by decide) (by decide)).bind fun r23 h23 => ?_
    refine Good.bind (P := fun y => DecOk y.2.2.1)
      (lp_good (fun y => 0 ≤ y.1 ∧ (y.2.2.1.subs.length : Int) + y.1 = r23.1.1 ∧ CodOk (1001 + 5 * (r23.1.1 - y.1)) y.2.1 ∧ NumOk y.2.2.1 ∧ y.2.2.1.levels = 1 + r2.1.1 ∧ (y.2.2.1.progs.length : Int) = 1 + r10.1.1 ∧ (∀ p ∈ y.2.2.1.progs, p.length ≤ 5 ∧ ∀ i ∈ p, InsOk (1 + r10.1.1) (1 + r2.1.1) i) ∧ ∀ s ∈ y.2.2.1.subs, SubOk (1 + r10.1.1) (1 + r2.1.1) s)
        (fun y => y.1.toNat) (fun self y ⟨p0, p1, p2, p3, p4, p5, p6, p7⟩ ih => ?_) _ _ ⟨h23.1.1, by show ((z.2.2.1.subs.length : Nat) : Int) + r23.1.1 = r23.1.1; rw [g6]; show ((0 : Nat) : Int) + r23.1.1 = r23.1.1; omega, h23.2.up (by show (1001 : Int) ≤ 1001 + 5 * (r23.1.1 - r23.1.1); omega), g2, g3, g4, g5, fun s hs => by
          have hs2 : s ∈ z.2.2.1.subs := hs
          rw [g6] at hs2; cases hs2⟩ (by show r23.1.1.toNat < _; omega)) fun y hy => .some_ hy
    have f2 : wi (y.1 - 1) = y.1 - 1 := wi_id (rg_lit (by omega))
    have hyl : y.2.2.1.subs.length ≤ 5 := by omega
    refine Good.ite (fun hlt => ?_) fun hlt => .some_ ⟨p3.w, p3.l, p3.k, p3.t, p3.q, p3.h, p3.b, p3.a, p3.p, by show 1 ≤ y.2.2.1.progs.length ∧ y.2.2.1.progs.length ≤ 4; omega, fun x hx => (p6 x hx).1, fun x hx i hi => by
      have := (p6 x hx).2 i hi
      rw [p5, p4]; exact this, hyl, fun s hs => by
      have := p7 s hs
      rw [p5, p4]; exact this⟩
    rw [f2, p4]
    refine (num_good (k := 1 + r10.1.1) p2 (by omega) (by omega) (by omega)).bind fun r27 h27 => ?_
    refine (num_good (k := 1 + r2.1.1) h27.2 (by omega) (by omega) (by omega)).bind fun r28 h28 => ?_
    refine (num_good (k := 16) h28.2 (by omega) (by omega) (by omega)).bind fun r29 h29 => ?_
    refine .guard (by show (((y.2.2.1.subs.length + 1 : Nat)) : Int) < _; omega) fun _ => ih _ ⟨by show 0 ≤ y.1 - 1; omega, ?_, h29.2.up (by show 1001 + 5 * (r23.1.1 - y.1) + 1 + 1 + 1 ≤ 1001 + 5 * (r23.1.1 - (y.1 - 1)); omega), ⟨p3.w, p3.l, p3.k, p3.t, p3.q, p3.h, p3.b, p3.a, p3.p⟩, p4, p5, p6, ?_⟩ (by show (y.1 - 1).toNat < y.1.toNat; omega)
    · show (((y.2.2.1.subs ++ [_]).length : Nat) : Int) + (y.1 - 1) = _
      rw [List.length_append, List.length_singleton]; omega
    · intro s hs
      rcases List.mem_append.1 hs with hs | hs
      · exact p7 s hs
      · rw [List.mem_singleton] at hs; subst hs
        exact ⟨h27.1, h28.1, h29.1.1, by show r29.1.1 ≤ 15; omega⟩
end
section
open Go
section
variable {c : Cfg}
theorem DecOk.ok (h : DecOk c) : CfgOk c := by
  have := h.w; have := h.l; have := h.k; have := h.t; have := h.q
  refine ⟨by omega, by omega, by omega, by omega, by omega, by omega, by omega, by omega, by omega, by omega, by have := h.sn; omega, fun s hs => ?_, fun p hp x hx => ?_⟩
  · obtain ⟨h1, h2, h3⟩ := h.ss s hs
    have := h.pn
    exact ⟨rg_lit (by omega), rg_lit (by omega), rg_lit (by omega)⟩
  · have := h.pn
    rcases h.ps p hp x hx with h0 | h0 | h0
    · exact ⟨rg_lit (by omega), rg_lit (by omega), fun h1 => absurd h0.1 h1⟩
    · exact ⟨rg_lit (by omega), rg_lit (by omega), fun _ h1 => absurd h0.1 h1⟩
    · exact ⟨rg_lit (by omega), rg_lit (by omega), fun _ _ => h0.2.1⟩
end
theorem config_good {b : List Int} (hb : ∀ x ∈ b, 0 ≤ x ∧ x ≤ 255) (hl : b.length ≤ 1000000) : Good (kconfig b) fun o => DecOk o.1.1 := by
  unfold kconfig
  exact (decode_good hb hl).bind fun r h => .some_ h
end
end Go.Proofs.YtpbkelpokpglaaaGreat
