/- Plain safety, 1: what it means that an answer is there; numbers. Plain safety, 2: what holds of frames, records and events; queues, the injector, the table, boosts. Plain safety, 3: the injector, the table, boosts, aging, parking. Plain safety, 4: a probe, a run, the client. -/
import Derived.Test.YtpbkelpokpglaaaGreatKm
import Derived.Test.YtpbkelpokpglaaaGreatKn
import Derived.Test.YtpbkelpokpglaaaGreatKo
import Derived.Test.YtpbkelpokpglaaaGreatKp
import Derived.Test.YtpbkelpokpglaaaGreatKq
set_option linter.all false
namespace Go.Proofs.YtpbkelpokpglaaaGreat
section
open Go
def Good {α : Type} (o : Option α) (P : α → Prop) : Prop := ∃ x, o = some x ∧ P x
section
variable {α β : Type} {o : Option α} {P Q : α → Prop} {x : α}
theorem Good.some_ (h : P x) : Good (some x) P := ⟨x, rfl, h⟩
theorem Good.bind {f : α → Option β} {Q : β → Prop} (h : Good o P) (k : ∀ x, P x → Good (f x) Q) : Good (o.bind f) Q := by
  obtain ⟨x, rfl, hx⟩ := h
  exact k x hx
theorem Good.ite {c : Prop} [Decidable c] {a b : Option α} (h1 : c → Good a P) (h2 : ¬ c → Good b P) : Good (if c then a else b) P := by
  by_cases h : c
  · rw [if_pos h]; exact h1 h
  · rw [if_neg h]; exact h2 h
theorem Good.guard {c : Prop} [Decidable c] {a b : Option α} (h : c) (k : c → Good a P) : Good (if c then a else b) P := by rw [if_pos h]; exact k h
theorem Good.mono (h : Good o P) (k : ∀ x, P x → Q x) : Good o Q := by
  obtain ⟨x, e, hx⟩ := h
  exact ⟨x, e, k x hx⟩
theorem Good.bT {c : β} {k : β → Option α} (h : ∀ r, c = r → Good (k r) P) : Good (bT c k) P := h c rfl
theorem Good.sK {z : α ⊕ β} {k : β → Option α} (h1 : ∀ a, z = .inl a → P a) (h2 : ∀ b, z = .inr b → Good (k b) P) : Good (sK z k) P := by
  cases z with
  | inl a => exact ⟨a, rfl, h1 a rfl⟩
  | inr b => exact h2 b rfl
end
/-- A number of 64 bits. -/
def Rg (x : Int) : Prop := -9223372036854775808 ≤ x ∧ x ≤ 9223372036854775807
theorem rg_wi (x : Int) : Rg (wi x) := by
  show -9223372036854775808 ≤ IntKind.i64.wrap x ∧ IntKind.i64.wrap x ≤ 9223372036854775807
  rw [IntKind.wrap_i64]; omega
theorem wi_id {x : Int} (h : Rg x) : wi x = x := w64 h.1 h.2
theorem power_all : (List.range 64).all (fun k => match r1power_s (k : Int) with | some v => decide (v ≠ 0) | none => false) = true := by decide +kernel
theorem power_good {i : Int} (h0 : 0 ≤ i) (h1 : i < 64) : Good (r1power_s i) fun v => v ≠ 0 := by
  have h := List.all_eq_true.1 power_all i.toNat (by simp; omega)
  rw [show ((i.toNat : Nat) : Int) = i by omega] at h
  cases e : r1power_s i with
  | none => simp [e] at h
  | some v => exact ⟨v, rfl, by simpa [e] using h⟩
theorem bit_good (x i : Int) : Good (r1bit_s x i) fun _ => True := by
  unfold r1bit_s
  refine Good.ite (fun h0 => Good.ite (fun h1 => ?_) fun _ => .some_ trivial) fun _ => .some_ trivial
  exact (power_good h0 h1).bind fun v hv => .guard hv fun _ => .some_ trivial
theorem mask_good (i : Int) : Good (r1mask_s i) fun _ => True := by
  unfold r1mask_s
  refine Good.ite (fun _ => .some_ trivial) fun h => ?_
  exact (power_good (by omega) (by omega)).bind fun v _ => .some_ trivial
theorem high_loop (x : Int) : ∀ (k : Nat) (y : Int × Int), -1 ≤ y.2 → y.2 ≤ 63 → y.2 + 2 ≤ k → Good (r1high_l1 x k y) fun z => ∀ a, z = .inl a → Rg a
  | 0, y, h0, _, h => by omega
  | k + 1, y, h0, h1, h => by
    rw [r1high_l1]
    refine Good.ite (fun h2 => (bit_good x y.2).bind fun b _ => Good.ite (fun _ => .some_ fun a e => ?_) fun _ => ?_) fun _ => .some_ fun a e => by cases e
    · injection e with e; subst e; unfold Rg; omega
    · have e : wi (y.2 - 1) = y.2 - 1 := wi_id (by unfold Rg; omega)
      exact high_loop x k _ (by show -1 ≤ wi (y.2 - 1); rw [e]; omega) (by show wi (y.2 - 1) ≤ 63; rw [e]; omega) (by show wi (y.2 - 1) + 2 ≤ k; rw [e]; omega)
theorem high_good (x : Int) : Good (r1high_s x) Rg := by
  unfold r1high_s
  refine (high_loop x 65 (0, 63) (by decide) (by decide) (by decide)).bind fun z hz => ?_
  exact Good.sK (fun a e => hz a e) fun b e => .some_ (by unfold Rg; omega)
theorem nth_loop (x : Int) : ∀ (k : Nat) (y : Int × Int × Int), 0 ≤ y.2.2 → y.2.2 ≤ 64 → 65 - y.2.2 ≤ k → Good (r1nth_l1 x k y) fun z => ∀ a, z = .inl a → Rg a
  | 0, y, h0, h1, h => by omega
  | k + 1, y, h0, h1, h => by
    rw [r1nth_l1]
    refine Good.ite (fun h2 => (bit_good x y.2.2).bind fun b _ => ?_) fun _ => .some_ fun a e => by cases e
    have e : wi (y.2.2 + 1) = y.2.2 + 1 := wi_id (by unfold Rg; omega)
    refine Good.ite (fun _ => ?_) fun _ => Good.ite (fun _ => .some_ fun a e => ?_) fun _ => ?_
    · exact nth_loop x k _ (by show 0 ≤ wi (y.2.2 + 1); rw [e]; omega) (by show wi (y.2.2 + 1) ≤ 64; rw [e]; omega) (by show 65 - wi (y.2.2 + 1) ≤ k; rw [e]; omega)
    · injection e with e; subst e; unfold Rg; omega
    · exact nth_loop x k _ (by show 0 ≤ wi (y.2.2 + 1); rw [e]; omega) (by show wi (y.2.2 + 1) ≤ 64; rw [e]; omega) (by show 65 - wi (y.2.2 + 1) ≤ k; rw [e]; omega)
theorem low_good (x : Int) : Good (r1low_s x) Rg := by
  unfold r1low_s r1nth_s
  refine Good.bind (P := Rg) ?_ fun v hv => .some_ hv
  refine (nth_loop x 65 (0, 0, 0) (by decide) (by decide) (by decide)).bind fun z hz => ?_
  exact Good.sK (fun a e => hz a e) fun b e => .some_ (by unfold Rg; omega)
theorem pack_good (d a t : Int) : Good (r1pack_s d a t) fun _ => True := by
  unfold r1pack_s
  refine Good.ite (fun _ => .some_ trivial) fun _ => ?_
  exact (power_good (by decide) (by decide)).bind fun _ _ => (power_good (by decide) (by decide)).bind fun _ _ => .some_ trivial
theorem unpack_good (k : Int) : Good (r1unpack_s k) fun o => Rg o.2.2 := by
  unfold r1unpack_s
  refine (power_good (by decide) (by decide)).bind fun _ h => .guard h fun _ => ?_
  refine (power_good (by decide) (by decide)).bind fun _ h => .guard h fun _ => ?_
  refine (power_good (by decide) (by decide)).bind fun _ h => .guard h fun _ => ?_
  refine (power_good (by decide) (by decide)).bind fun _ h => .guard h fun _ => ?_
  exact .some_ (rg_wi _)
theorem draw_good (d n : Int) (hd : Rg d) (hn : Rg n) : Good (r2draw_s d n) fun v => Rg v ∧ 0 ≤ v ∧ (1 ≤ n → v < n) := by
  unfold r2draw_s
  refine Good.ite (fun _ => .some_ (by unfold Rg; omega)) fun h => ?_
  have h1 := Int.tmod_lt_of_pos d (b := n) (by omega)
  have h2 : -n < Int.tmod d n := by
    have := Int.lt_tmod_of_pos d (b := n) (by omega)
    omega
  unfold Rg at hn
  refine .guard (by omega) fun _ => Good.ite (fun h3 => .guard (by omega) fun _ => .some_ ?_) fun h3 => .guard (by omega) fun _ => .some_ (by unfold Rg; omega)
  rw [wi_id (by unfold Rg; omega)]
  unfold Rg; omega
theorem class_good (l n c : Int) : Good (r1class_s l n c) Rg := by
  unfold r1class_s
  refine Good.ite (fun _ => .some_ (by unfold Rg; omega)) fun h => .guard (by omega) fun _ => .some_ (rg_wi _)
theorem ring_good {q : QV} (i : Int) (h : q.cap ≤ 9223372036854775807) : Good (r8ring_s q i) fun _ => True := by
  unfold r8ring_s
  refine Good.ite (fun _ => .some_ trivial) fun h1 => .guard ?_ fun _ => .some_ trivial
  have : wu q.cap = q.cap := wu64 (by omega) (by omega)
  rw [this]; omega
end
section
open Go
structure FrR (K : Nat) (f : FrV) : Prop where
  a : Rg f.a
  b : Rg f.b
  d : Rg f.d
  i : Rg f.i
  j : Rg f.j
  n : Rg f.n
  t : Rg f.t
  l : ∀ x ∈ f.l, Rg x
  ln : f.l.length ≤ K
  cap : f.q.cap ≤ 9223372036854775807
structure EvR (e : Ev) : Prop where
  kind : Rg e.kind
  worker : Rg e.worker
  task : Rg e.task
  other : Rg e.other
  level : Rg e.level
def EvsR (K : Nat) (evs : List Ev) : Prop := evs.length ≤ K ∧ ∀ e ∈ evs, EvR e
def RcsR (K : Nat) (c : Cfg) (recs : List RecV) : Prop := (recs.length : Int) = c.tasks ∧ ∀ r ∈ recs, r.kids.length ≤ K ∧ ∀ x ∈ r.kids, Rg x
structure CfgOk (c : Cfg) : Prop where
  w1 : 1 ≤ c.workers
  w2 : c.workers ≤ 64
  l1 : 1 ≤ c.levels
  l2 : c.levels ≤ 64
  c1 : 1 ≤ c.classes
  c2 : c.classes ≤ 64
  t1 : 1 ≤ c.tasks
  t2 : c.tasks ≤ 65535
  q1 : 0 ≤ c.deque
  q2 : c.deque ≤ 65535
  sl : c.subs.length ≤ 1000
  sub : ∀ s ∈ c.subs, Rg s.level ∧ Rg s.deadline ∧ Rg s.prog
  ins : ∀ p ∈ c.progs, ∀ x ∈ p, Rg x.a ∧ Rg x.b ∧ (x.op ≠ 0 → x.op ≠ 1 → 0 ≤ x.a)
theorem FrR.up {K : Nat} {f : FrV} (h : FrR K f) : FrR (K + 1) f := ⟨h.a, h.b, h.d, h.i, h.j, h.n, h.t, h.l, Nat.le_succ_of_le h.ln, h.cap⟩
theorem EvsR.up {K : Nat} {e : List Ev} (h : EvsR K e) : EvsR (K + 1) e := ⟨Nat.le_succ_of_le h.1, h.2⟩
theorem RcsR.up {K : Nat} {c : Cfg} {e : List RecV} (h : RcsR K c e) : RcsR (K + 1) c e := ⟨h.1, fun r hr => ⟨Nat.le_succ_of_le (h.2 r hr).1, (h.2 r hr).2⟩⟩
theorem emit_good {K : Nat} {evs : List Ev} {k w t o l : Int} (h : EvsR K evs) (hK : K ≤ 1000000000) (hk : Rg k) (hw : Rg w) (ht : Rg t) (ho : Rg o) (hl : Rg l) : Good (eemit_s evs k w t o l) (EvsR (K + 1)) := by
  unfold eemit_s
  refine .guard (by have := h.1; omega) fun _ => .some_ ⟨by simp; exact h.1, fun e he => ?_⟩
  rcases List.mem_append.1 he with he | he
  · exact h.2 e he
  · rw [List.mem_singleton] at he; subst he; exact ⟨hk, hw, ht, ho, hl⟩
theorem mem_set {α : Type} {xs : List α} {n : Nat} {y x : α} (h : x ∈ xs.set n y) : x = y ∨ x ∈ xs := by
  rcases List.mem_or_eq_of_mem_set h with h | h
  · exact .inr h
  · exact .inl h
theorem at_mem {α : Type} [Inhabited α] {xs : List α} {i : Int} (h : 0 ≤ i ∧ i < (xs.length : Int)) : at_ xs i ∈ xs := List.mem_of_getElem? (at_get h)
theorem RcsR.set {K : Nat} {c : Cfg} {rs : List RecV} {i : Int} {r : RecV} (h : RcsR K c rs) (hr : r.kids.length ≤ K ∧ ∀ x ∈ r.kids, Rg x) : RcsR K c (st_ rs i r) :=
  ⟨by simp [st_]; exact h.1, fun x hx => by
    rcases mem_set hx with e | hx
    · rw [e]; exact hr
    · exact h.2 x hx⟩
theorem RcsR.at {K : Nat} {c : Cfg} {rs : List RecV} {i : Int} (h : RcsR K c rs) (hi : 0 ≤ i ∧ i < (rs.length : Int)) : (at_ rs i).kids.length ≤ K ∧ ∀ x ∈ (at_ rs i).kids, Rg x := h.2 _ (at_mem hi)
/-- Frames whose line alone and whose words change. -/
def Same (K : Nat) (f : FrV) (r : ResV) (f' : FrV) : Prop := FrR K f' ∧ f'.kind = f.kind ∧ f'.l = f.l ∧ Rg r.value
theorem Same.of {K : Nat} {f f' : FrV} {r : ResV} (h1 : FrR K f') (h2 : f'.kind = f.kind) (h3 : f'.l = f.l) (h4 : Rg r.value) : Same K f r f' := ⟨h1, h2, h3, h4⟩
section
variable {K : Nat} {c : Cfg} {m : MemV} {f : FrV} {evs : List Ev} {recs : List RecV} {now : Int}
theorem push_good (h : FrR K f) : Good (r8push_s m f) fun o => Same K f o.1 o.2.2 := by
  unfold r8push_s
  (repeat' (first | with_reducible refine Good.ite (fun _ => ?_) (fun _ => ?_) | with_reducible refine Good.bT (fun _ _ => ?_) | with_reducible refine Good.bind (mask_good _) (fun _ _ => ?_) | with_reducible refine Good.bind (bit_good _ _) (fun _ _ => ?_) | with_reducible refine Good.bind (low_good _) (fun _ _ => ?_) | with_reducible refine Good.bind (high_good _) (fun _ _ => ?_) | with_reducible refine Good.bind (pack_good _ _ _) (fun _ _ => ?_) | with_reducible refine Good.bind (class_good _ _ _) (fun _ _ => ?_)))
  all_goals first | ((with_reducible refine Good.some_ ?_; refine Same.of ?_ ?_ ?_ ?_ <;> (try unfold r8end_s) <;> (try dsimp only) <;> first | (first | with_reducible exact h | (constructor <;> (try dsimp only) <;> first | with_reducible exact (h).a | with_reducible exact (h).b | with_reducible exact (h).d | with_reducible exact (h).i | with_reducible exact (h).j | with_reducible exact (h).n | with_reducible exact (h).t | with_reducible exact (h).l | with_reducible exact (h).ln | with_reducible exact (h).cap | (first | with_reducible assumption | with_reducible exact rg_wi _ | (unfold Rg; omega)))) | (first | with_reducible assumption | with_reducible exact rg_wi _ | (unfold Rg; omega)))) | (refine (ring_good _ h.cap).bind fun _ _ => ?_; (repeat' (first | with_reducible refine Good.ite (fun _ => ?_) (fun _ => ?_) | with_reducible refine Good.bT (fun _ _ => ?_) | with_reducible refine Good.bind (mask_good _) (fun _ _ => ?_) | with_reducible refine Good.bind (bit_good _ _) (fun _ _ => ?_) | with_reducible refine Good.bind (low_good _) (fun _ _ => ?_) | with_reducible refine Good.bind (high_good _) (fun _ _ => ?_) | with_reducible refine Good.bind (pack_good _ _ _) (fun _ _ => ?_) | with_reducible refine Good.bind (class_good _ _ _) (fun _ _ => ?_))); ((with_reducible refine Good.some_ ?_; refine Same.of ?_ ?_ ?_ ?_ <;> (try unfold r8end_s) <;> (try dsimp only) <;> first | (first | with_reducible exact h | (constructor <;> (try dsimp only) <;> first | with_reducible exact (h).a | with_reducible exact (h).b | with_reducible exact (h).d | with_reducible exact (h).i | with_reducible exact (h).j | with_reducible exact (h).n | with_reducible exact (h).t | with_reducible exact (h).l | with_reducible exact (h).ln | with_reducible exact (h).cap | (first | with_reducible assumption | with_reducible exact rg_wi _ | (unfold Rg; omega)))) | (first | with_reducible assumption | with_reducible exact rg_wi _ | (unfold Rg; omega)))))
theorem pop_good (h : FrR K f) : Good (r8pop_s m f) fun o => Same K f o.1 o.2.2 := by
  unfold r8pop_s
  (repeat' (first | with_reducible refine Good.ite (fun _ => ?_) (fun _ => ?_) | with_reducible refine Good.bT (fun _ _ => ?_) | with_reducible refine Good.bind (mask_good _) (fun _ _ => ?_) | with_reducible refine Good.bind (bit_good _ _) (fun _ _ => ?_) | with_reducible refine Good.bind (low_good _) (fun _ _ => ?_) | with_reducible refine Good.bind (high_good _) (fun _ _ => ?_) | with_reducible refine Good.bind (pack_good _ _ _) (fun _ _ => ?_) | with_reducible refine Good.bind (class_good _ _ _) (fun _ _ => ?_)))
  all_goals first | ((with_reducible refine Good.some_ ?_; refine Same.of ?_ ?_ ?_ ?_ <;> (try unfold r8end_s) <;> (try dsimp only) <;> first | (first | with_reducible exact h | (constructor <;> (try dsimp only) <;> first | with_reducible exact (h).a | with_reducible exact (h).b | with_reducible exact (h).d | with_reducible exact (h).i | with_reducible exact (h).j | with_reducible exact (h).n | with_reducible exact (h).t | with_reducible exact (h).l | with_reducible exact (h).ln | with_reducible exact (h).cap | (first | with_reducible assumption | with_reducible exact rg_wi _ | (unfold Rg; omega)))) | (first | with_reducible assumption | with_reducible exact rg_wi _ | (unfold Rg; omega)))) | (refine (ring_good _ h.cap).bind fun _ _ => ?_; (repeat' (first | with_reducible refine Good.ite (fun _ => ?_) (fun _ => ?_) | with_reducible refine Good.bT (fun _ _ => ?_) | with_reducible refine Good.bind (mask_good _) (fun _ _ => ?_) | with_reducible refine Good.bind (bit_good _ _) (fun _ _ => ?_) | with_reducible refine Good.bind (low_good _) (fun _ _ => ?_) | with_reducible refine Good.bind (high_good _) (fun _ _ => ?_) | with_reducible refine Good.bind (pack_good _ _ _) (fun _ _ => ?_) | with_reducible refine Good.bind (class_good _ _ _) (fun _ _ => ?_))); ((with_reducible refine Good.some_ ?_; refine Same.of ?_ ?_ ?_ ?_ <;> (try unfold r8end_s) <;> (try dsimp only) <;> first | (first | with_reducible exact h | (constructor <;> (try dsimp only) <;> first | with_reducible exact (h).a | with_reducible exact (h).b | with_reducible exact (h).d | with_reducible exact (h).i | with_reducible exact (h).j | with_reducible exact (h).n | with_reducible exact (h).t | with_reducible exact (h).l | with_reducible exact (h).ln | with_reducible exact (h).cap | (first | with_reducible assumption | with_reducible exact rg_wi _ | (unfold Rg; omega)))) | (first | with_reducible assumption | with_reducible exact rg_wi _ | (unfold Rg; omega)))))
theorem steal_good (h : FrR K f) : Good (r8steal_s m f) fun o => Same K f o.1 o.2.2 := by
  unfold r8steal_s
  (repeat' (first | with_reducible refine Good.ite (fun _ => ?_) (fun _ => ?_) | with_reducible refine Good.bT (fun _ _ => ?_) | with_reducible refine Good.bind (mask_good _) (fun _ _ => ?_) | with_reducible refine Good.bind (bit_good _ _) (fun _ _ => ?_) | with_reducible refine Good.bind (low_good _) (fun _ _ => ?_) | with_reducible refine Good.bind (high_good _) (fun _ _ => ?_) | with_reducible refine Good.bind (pack_good _ _ _) (fun _ _ => ?_) | with_reducible refine Good.bind (class_good _ _ _) (fun _ _ => ?_)))
  all_goals first | ((with_reducible refine Good.some_ ?_; refine Same.of ?_ ?_ ?_ ?_ <;> (try unfold r8end_s) <;> (try dsimp only) <;> first | (first | with_reducible exact h | (constructor <;> (try dsimp only) <;> first | with_reducible exact (h).a | with_reducible exact (h).b | with_reducible exact (h).d | with_reducible exact (h).i | with_reducible exact (h).j | with_reducible exact (h).n | with_reducible exact (h).t | with_reducible exact (h).l | with_reducible exact (h).ln | with_reducible exact (h).cap | (first | with_reducible assumption | with_reducible exact rg_wi _ | (unfold Rg; omega)))) | (first | with_reducible assumption | with_reducible exact rg_wi _ | (unfold Rg; omega)))) | (refine (ring_good _ h.cap).bind fun _ _ => ?_; (repeat' (first | with_reducible refine Good.ite (fun _ => ?_) (fun _ => ?_) | with_reducible refine Good.bT (fun _ _ => ?_) | with_reducible refine Good.bind (mask_good _) (fun _ _ => ?_) | with_reducible refine Good.bind (bit_good _ _) (fun _ _ => ?_) | with_reducible refine Good.bind (low_good _) (fun _ _ => ?_) | with_reducible refine Good.bind (high_good _) (fun _ _ => ?_) | with_reducible refine Good.bind (pack_good _ _ _) (fun _ _ => ?_) | with_reducible refine Good.bind (class_good _ _ _) (fun _ _ => ?_))); ((with_reducible refine Good.some_ ?_; refine Same.of ?_ ?_ ?_ ?_ <;> (try unfold r8end_s) <;> (try dsimp only) <;> first | (first | with_reducible exact h | (constructor <;> (try dsimp only) <;> first | with_reducible exact (h).a | with_reducible exact (h).b | with_reducible exact (h).d | with_reducible exact (h).i | with_reducible exact (h).j | with_reducible exact (h).n | with_reducible exact (h).t | with_reducible exact (h).l | with_reducible exact (h).ln | with_reducible exact (h).cap | (first | with_reducible assumption | with_reducible exact rg_wi _ | (unfold Rg; omega)))) | (first | with_reducible assumption | with_reducible exact rg_wi _ | (unfold Rg; omega)))))
theorem clearbit_good (h : FrR K f) : Good (r8clearbit_s m f) fun o => Same K f o.1 o.2.2 := by
  unfold r8clearbit_s
  (repeat' (first | with_reducible refine Good.ite (fun _ => ?_) (fun _ => ?_) | with_reducible refine Good.bT (fun _ _ => ?_) | with_reducible refine Good.bind (mask_good _) (fun _ _ => ?_) | with_reducible refine Good.bind (bit_good _ _) (fun _ _ => ?_) | with_reducible refine Good.bind (low_good _) (fun _ _ => ?_) | with_reducible refine Good.bind (high_good _) (fun _ _ => ?_) | with_reducible refine Good.bind (pack_good _ _ _) (fun _ _ => ?_) | with_reducible refine Good.bind (class_good _ _ _) (fun _ _ => ?_)))
  all_goals ((with_reducible refine Good.some_ ?_; refine Same.of ?_ ?_ ?_ ?_ <;> (try unfold r8end_s) <;> (try dsimp only) <;> first | (first | with_reducible exact h | (constructor <;> (try dsimp only) <;> first | with_reducible exact (h).a | with_reducible exact (h).b | with_reducible exact (h).d | with_reducible exact (h).i | with_reducible exact (h).j | with_reducible exact (h).n | with_reducible exact (h).t | with_reducible exact (h).l | with_reducible exact (h).ln | with_reducible exact (h).cap | (first | with_reducible assumption | with_reducible exact rg_wi _ | (unfold Rg; omega)))) | (first | with_reducible assumption | with_reducible exact rg_wi _ | (unfold Rg; omega))))
theorem insert_good (h : FrR K f) : Good (r8insert_s c m f) fun o => Same K f o.1 o.2.2 := by
  unfold r8insert_s
  (repeat' (first | with_reducible refine Good.ite (fun _ => ?_) (fun _ => ?_) | with_reducible refine Good.bT (fun _ _ => ?_) | with_reducible refine Good.bind (mask_good _) (fun _ _ => ?_) | with_reducible refine Good.bind (bit_good _ _) (fun _ _ => ?_) | with_reducible refine Good.bind (low_good _) (fun _ _ => ?_) | with_reducible refine Good.bind (high_good _) (fun _ _ => ?_) | with_reducible refine Good.bind (pack_good _ _ _) (fun _ _ => ?_) | with_reducible refine Good.bind (class_good _ _ _) (fun _ _ => ?_)))
  all_goals ((with_reducible refine Good.some_ ?_; refine Same.of ?_ ?_ ?_ ?_ <;> (try unfold r8end_s) <;> (try dsimp only) <;> first | (first | with_reducible exact h | (constructor <;> (try dsimp only) <;> first | with_reducible exact (h).a | with_reducible exact (h).b | with_reducible exact (h).d | with_reducible exact (h).i | with_reducible exact (h).j | with_reducible exact (h).n | with_reducible exact (h).t | with_reducible exact (h).l | with_reducible exact (h).ln | with_reducible exact (h).cap | (first | with_reducible assumption | with_reducible exact rg_wi _ | (unfold Rg; omega)))) | (first | with_reducible assumption | with_reducible exact rg_wi _ | (unfold Rg; omega))))
end
end
section
open Go
section
variable {K : Nat} {c : Cfg} {m : MemV} {f : FrV} {evs : List Ev} {recs : List RecV} {now : Int}
theorem remove_good (h : FrR K f) (he : EvsR K evs) (hK : K ≤ 1000000000) : Good (r8remove_s c m evs f) fun o => Same K f o.1 o.2.2.2 ∧ EvsR (K + 1) o.2.2.1 := by
  have he1 := he.up
  unfold r8remove_s
  (repeat' (first | with_reducible refine Good.ite (fun _ => ?_) (fun _ => ?_) | with_reducible refine Good.bT (fun _ _ => ?_) | with_reducible refine Good.bind (mask_good _) (fun _ _ => ?_) | with_reducible refine Good.bind (bit_good _ _) (fun _ _ => ?_) | with_reducible refine Good.bind (low_good _) (fun _ _ => ?_) | with_reducible refine Good.bind (high_good _) (fun _ _ => ?_) | with_reducible refine Good.bind (unpack_good _) (fun _ _ => ?_) | with_reducible refine Good.bind (class_good _ _ _) (fun _ _ => ?_) | with_reducible refine Good.bind (emit_good he hK ?_ ?_ ?_ ?_ ?_) (fun _ _ => ?_)))
  all_goals (first | (first | (first | with_reducible assumption | with_reducible exact rg_wi _ | (unfold Rg; omega)) | with_reducible exact (h).a | with_reducible exact (h).b | with_reducible exact (h).d | with_reducible exact (h).i | with_reducible exact (h).j | with_reducible exact (h).n | with_reducible exact (h).t) | (with_reducible refine Good.some_ ?_; refine ⟨Same.of ?_ ?_ ?_ ?_, ?_⟩ <;> (try unfold r8end_s) <;> (try dsimp only) <;> first | (first | with_reducible exact h | (constructor <;> (try dsimp only) <;> first | with_reducible exact (h).a | with_reducible exact (h).b | with_reducible exact (h).d | with_reducible exact (h).i | with_reducible exact (h).j | with_reducible exact (h).n | with_reducible exact (h).t | with_reducible exact (h).l | with_reducible exact (h).ln | with_reducible exact (h).cap | (first | with_reducible assumption | with_reducible exact rg_wi _ | (unfold Rg; omega)))) | (first | (first | with_reducible assumption | with_reducible exact rg_wi _ | (unfold Rg; omega)) | with_reducible exact (h).a | with_reducible exact (h).b | with_reducible exact (h).d | with_reducible exact (h).i | with_reducible exact (h).j | with_reducible exact (h).n | with_reducible exact (h).t) | with_reducible exact he1 | with_reducible assumption))
theorem state_true {a b : Int} {t : Int} (h : (ecas_s m (r6state_s c t) a b).1 = true) : 0 ≤ t ∧ t < c.tasks := by
  have h0 : 0 ≤ r6state_s c t := by
    by_cases h1 : 0 ≤ r6state_s c t
    · exact h1
    · exfalso
      simp [ecas_s, bT, r2access_s, r2in_s, h1] at h
  unfold r6state_s r6task_s at h0
  have h1 : ¬ r6index_s (wi ((r6deques_s c) + (wi ((wi (c.workers * c.levels)) * (wi (2 + c.deque)))))) t c.tasks 5 < 0 := fun hx => by
    rw [if_pos hx] at h0; omega
  unfold r6index_s at h1
  by_cases h2 : t < 0 ∨ c.tasks ≤ t
  · rw [if_pos h2] at h1; omega
  · omega
theorem claim_good (h : FrR K f) (he : EvsR K evs) (hr : RcsR K c recs) (hK : K ≤ 1000000000) : Good (r8claim_s c m recs evs f) fun o => Rg o.1.value ∧ o.1.done = true ∧ RcsR K c o.2.2.1 ∧ EvsR (K + 1) o.2.2.2 := by
  unfold r8claim_s
  refine Good.bT fun r e => Good.ite (fun _ => ?_) fun h2 => ?_
  · refine (emit_good he hK ?_ h.a h.b ?_ ?_).bind fun _ he2 => .some_ ⟨by show Rg 0; (first | with_reducible assumption | with_reducible exact rg_wi _ | (unfold Rg; omega)), rfl, hr, he2⟩ <;> (first | with_reducible assumption | with_reducible exact rg_wi _ | (unfold Rg; omega))
  · have h3 := state_true (c := c) (m := m) (t := f.b) (a := 1) (b := 2) (by rw [e]; simpa using h2)
    have h4 : 0 ≤ f.b ∧ f.b < (recs.length : Int) := by have := hr.1; omega
    refine .guard h4 fun _ => ?_
    refine (emit_good he hK ?_ h.a h.b ?_ ?_).bind fun _ he2 => .some_ ⟨h.b, rfl, hr.set (hr.at h4), he2⟩
    · split <;> (first | with_reducible assumption | with_reducible exact rg_wi _ | (unfold Rg; omega))
    · (first | with_reducible assumption | with_reducible exact rg_wi _ | (unfold Rg; omega))
    · (first | with_reducible assumption | with_reducible exact rg_wi _ | (unfold Rg; omega))
theorem task_at {t : Int} (h : etask_s c recs t = true) (hr : RcsR K c recs) : 0 ≤ t ∧ t < (recs.length : Int) := by
  simp [etask_s] at h
  omega
/-- What a leaf of a frame leaves: the frame's own numbers, the records, the events; a new task's number. -/
structure TblP (K : Nat) (c : Cfg) (recs : List RecV) (f : FrV) (r : ResV) (rs' : List RecV) (es' : List Ev) (f' : FrV) : Prop where
  same : Same K f r f'
  rcs : RcsR K c rs'
  es : EvsR (K + 1) es'
  new : f.kind = 12 → r.done = true ∧ rs' = recs ∧ (r.code = 3 ∨ (0 ≤ r.value ∧ r.value < (recs.length : Int)))
theorem table_good (h : FrR K f) (he : EvsR K evs) (hr : RcsR K c recs) (hK : K ≤ 1000000000) : Good (r8table_s c m now recs evs f) fun o => TblP K c recs f o.1 o.2.2.1 o.2.2.2.1 o.2.2.2.2 := by
  have he1 := he.up
  unfold r8table_s
  refine Good.ite (fun hk => ?_) fun hk => ?_
  · refine Good.bT fun r e => Good.ite (fun ht => .some_ ⟨⟨h, rfl, rfl, rg_wi _⟩, hr, he1, fun _ => ⟨rfl, rfl, .inr (task_at ht hr)⟩⟩) fun ht => .some_ ⟨⟨h, rfl, rfl, ?_⟩, hr, he1, fun _ => ⟨rfl, rfl, .inl rfl⟩⟩
    show Rg 0; (first | with_reducible assumption | with_reducible exact rg_wi _ | (unfold Rg; omega))
  refine Good.ite (fun hk2 => (claim_good h he hr hK).bind fun r hr2 => .some_ ⟨⟨h, rfl, rfl, hr2.1⟩, hr2.2.2.1, hr2.2.2.2, fun e => absurd e hk⟩) fun hk2 => ?_
  (repeat' (first | with_reducible refine Good.ite (fun _ => ?_) (fun _ => ?_) | with_reducible refine Good.bT (fun _ _ => ?_) | with_reducible refine Good.bind (mask_good _) (fun _ _ => ?_) | with_reducible refine Good.bind (bit_good _ _) (fun _ _ => ?_) | with_reducible refine Good.bind (low_good _) (fun _ _ => ?_) | with_reducible refine Good.bind (high_good _) (fun _ _ => ?_) | with_reducible refine Good.bind (pack_good _ _ _) (fun _ _ => ?_) | with_reducible refine Good.bind (class_good _ _ _) (fun _ _ => ?_)))
  all_goals
    with_reducible refine Good.some_ ?_
    refine TblP.mk (Same.of ?_ ?_ ?_ ?_) hr he1 (fun e => absurd e hk) <;> (try unfold r8end_s) <;> (try dsimp only) <;> first | (first | with_reducible exact h | (constructor <;> (try dsimp only) <;> first | with_reducible exact (h).a | with_reducible exact (h).b | with_reducible exact (h).d | with_reducible exact (h).i | with_reducible exact (h).j | with_reducible exact (h).n | with_reducible exact (h).t | with_reducible exact (h).l | with_reducible exact (h).ln | with_reducible exact (h).cap | (first | with_reducible assumption | with_reducible exact rg_wi _ | (unfold Rg; omega)))) | (first | (first | with_reducible assumption | with_reducible exact rg_wi _ | (unfold Rg; omega)) | with_reducible exact (h).a | with_reducible exact (h).b | with_reducible exact (h).d | with_reducible exact (h).i | with_reducible exact (h).j | with_reducible exact (h).n | with_reducible exact (h).t)
theorem boost_good (h : FrR K f) (he : EvsR K evs) (hK : K ≤ 1000000000) : Good (r8boost_s c m recs evs f) fun o => Same K f o.1 o.2.2.2 ∧ EvsR (K + 1) o.2.2.1 := by
  have he1 := he.up
  unfold r8boost_s
  (repeat' (first | with_reducible refine Good.ite (fun _ => ?_) (fun _ => ?_) | with_reducible refine Good.bT (fun _ _ => ?_) | with_reducible refine Good.bind (mask_good _) (fun _ _ => ?_) | with_reducible refine Good.bind (bit_good _ _) (fun _ _ => ?_) | with_reducible refine Good.bind (low_good _) (fun _ _ => ?_) | with_reducible refine Good.bind (high_good _) (fun _ _ => ?_) | with_reducible refine Good.bind (unpack_good _) (fun _ _ => ?_) | with_reducible refine Good.bind (class_good _ _ _) (fun _ _ => ?_) | with_reducible refine Good.bind (emit_good he hK ?_ ?_ ?_ ?_ ?_) (fun _ _ => ?_)))
  all_goals (first | (first | (first | with_reducible assumption | with_reducible exact rg_wi _ | (unfold Rg; omega)) | with_reducible exact (h).a | with_reducible exact (h).b | with_reducible exact (h).d | with_reducible exact (h).i | with_reducible exact (h).j | with_reducible exact (h).n | with_reducible exact (h).t) | (with_reducible refine Good.some_ ?_; refine ⟨Same.of ?_ ?_ ?_ ?_, ?_⟩ <;> (try unfold r8end_s) <;> (try dsimp only) <;> first | (first | with_reducible exact h | (constructor <;> (try dsimp only) <;> first | with_reducible exact (h).a | with_reducible exact (h).b | with_reducible exact (h).d | with_reducible exact (h).i | with_reducible exact (h).j | with_reducible exact (h).n | with_reducible exact (h).t | with_reducible exact (h).l | with_reducible exact (h).ln | with_reducible exact (h).cap | (first | with_reducible assumption | with_reducible exact rg_wi _ | (unfold Rg; omega)))) | (first | (first | with_reducible assumption | with_reducible exact rg_wi _ | (unfold Rg; omega)) | with_reducible exact (h).a | with_reducible exact (h).b | with_reducible exact (h).d | with_reducible exact (h).i | with_reducible exact (h).j | with_reducible exact (h).n | with_reducible exact (h).t) | with_reducible exact he1 | with_reducible assumption))
theorem sweep_good (h : FrR K f) (he : EvsR K evs) (hK : K ≤ 1000000000) : Good (r8sweep_s c m now recs evs f) fun o => Same K f o.1 o.2.2.2 ∧ EvsR (K + 1) o.2.2.1 := by
  have he1 := he.up
  unfold r8sweep_s
  (repeat' (first | with_reducible refine Good.ite (fun _ => ?_) (fun _ => ?_) | with_reducible refine Good.bT (fun _ _ => ?_) | with_reducible refine Good.bind (mask_good _) (fun _ _ => ?_) | with_reducible refine Good.bind (bit_good _ _) (fun _ _ => ?_) | with_reducible refine Good.bind (low_good _) (fun _ _ => ?_) | with_reducible refine Good.bind (high_good _) (fun _ _ => ?_) | with_reducible refine Good.bind (unpack_good _) (fun _ _ => ?_) | with_reducible refine Good.bind (class_good _ _ _) (fun _ _ => ?_) | with_reducible refine Good.bind (emit_good he hK ?_ ?_ ?_ ?_ ?_) (fun _ _ => ?_)))
  all_goals (first | (first | (first | with_reducible assumption | with_reducible exact rg_wi _ | (unfold Rg; omega)) | with_reducible exact (h).a | with_reducible exact (h).b | with_reducible exact (h).d | with_reducible exact (h).i | with_reducible exact (h).j | with_reducible exact (h).n | with_reducible exact (h).t) | (with_reducible refine Good.some_ ?_; refine ⟨Same.of ?_ ?_ ?_ ?_, ?_⟩ <;> (try unfold r8end_s) <;> (try dsimp only) <;> first | (first | with_reducible exact h | (constructor <;> (try dsimp only) <;> first | with_reducible exact (h).a | with_reducible exact (h).b | with_reducible exact (h).d | with_reducible exact (h).i | with_reducible exact (h).j | with_reducible exact (h).n | with_reducible exact (h).t | with_reducible exact (h).l | with_reducible exact (h).ln | with_reducible exact (h).cap | (first | with_reducible assumption | with_reducible exact rg_wi _ | (unfold Rg; omega)))) | (first | (first | with_reducible assumption | with_reducible exact rg_wi _ | (unfold Rg; omega)) | with_reducible exact (h).a | with_reducible exact (h).b | with_reducible exact (h).d | with_reducible exact (h).i | with_reducible exact (h).j | with_reducible exact (h).n | with_reducible exact (h).t) | with_reducible exact he1 | with_reducible assumption))
theorem sleep_good (h : FrR K f) (he : EvsR K evs) (hK : K ≤ 1000000000) (hn : Rg now) (hc : CfgOk c) : Good (r8sleep_s c m now evs f) fun o => Same K f o.1 o.2.2.2 ∧ EvsR (K + 1) o.2.2.1 := by
  have he1 := he.up
  have hcl : Rg c.classes := by have := hc.c1; have := hc.c2; (first | with_reducible assumption | with_reducible exact rg_wi _ | (unfold Rg; omega))
  unfold r8sleep_s
  refine (draw_good _ _ h.a hcl).bind fun _ _ => ?_
  (repeat' (first | with_reducible refine Good.ite (fun _ => ?_) (fun _ => ?_) | with_reducible refine Good.bT (fun _ _ => ?_) | with_reducible refine Good.bind (mask_good _) (fun _ _ => ?_) | with_reducible refine Good.bind (bit_good _ _) (fun _ _ => ?_) | with_reducible refine Good.bind (low_good _) (fun _ _ => ?_) | with_reducible refine Good.bind (high_good _) (fun _ _ => ?_) | with_reducible refine Good.bind (unpack_good _) (fun _ _ => ?_) | with_reducible refine Good.bind (class_good _ _ _) (fun _ _ => ?_) | with_reducible refine Good.bind (emit_good he hK ?_ ?_ ?_ ?_ ?_) (fun _ _ => ?_)))
  all_goals (first | (first | (first | with_reducible assumption | with_reducible exact rg_wi _ | (unfold Rg; omega)) | with_reducible exact (h).a | with_reducible exact (h).b | with_reducible exact (h).d | with_reducible exact (h).i | with_reducible exact (h).j | with_reducible exact (h).n | with_reducible exact (h).t) | (with_reducible refine Good.some_ ?_; refine ⟨Same.of ?_ ?_ ?_ ?_, ?_⟩ <;> (try unfold r8end_s) <;> (try dsimp only) <;> first | (first | with_reducible exact h | (constructor <;> (try dsimp only) <;> first | with_reducible exact (h).a | with_reducible exact (h).b | with_reducible exact (h).d | with_reducible exact (h).i | with_reducible exact (h).j | with_reducible exact (h).n | with_reducible exact (h).t | with_reducible exact (h).l | with_reducible exact (h).ln | with_reducible exact (h).cap | (first | with_reducible assumption | with_reducible exact rg_wi _ | (unfold Rg; omega)))) | (first | (first | with_reducible assumption | with_reducible exact rg_wi _ | (unfold Rg; omega)) | with_reducible exact (h).a | with_reducible exact (h).b | with_reducible exact (h).d | with_reducible exact (h).i | with_reducible exact (h).j | with_reducible exact (h).n | with_reducible exact (h).t) | with_reducible exact he1 | with_reducible assumption))
theorem wake_good (h : FrR K f) (he : EvsR K evs) (hK : K ≤ 1000000000) (hc : CfgOk c) : Good (r8wake_s c m evs f) fun o => Same K f o.1 o.2.2.2 ∧ EvsR (K + 1) o.2.2.1 := by
  have he1 := he.up
  have hcl : Rg c.classes := by have := hc.c1; have := hc.c2; (first | with_reducible assumption | with_reducible exact rg_wi _ | (unfold Rg; omega))
  unfold r8wake_s
  refine (class_good _ _ _).bind fun _ _ => (draw_good _ _ (rg_wi _) hcl).bind fun _ _ => ?_
  (repeat' (first | with_reducible refine Good.ite (fun _ => ?_) (fun _ => ?_) | with_reducible refine Good.bT (fun _ _ => ?_) | with_reducible refine Good.bind (mask_good _) (fun _ _ => ?_) | with_reducible refine Good.bind (bit_good _ _) (fun _ _ => ?_) | with_reducible refine Good.bind (low_good _) (fun _ _ => ?_) | with_reducible refine Good.bind (high_good _) (fun _ _ => ?_) | with_reducible refine Good.bind (unpack_good _) (fun _ _ => ?_) | with_reducible refine Good.bind (class_good _ _ _) (fun _ _ => ?_) | with_reducible refine Good.bind (emit_good he hK ?_ ?_ ?_ ?_ ?_) (fun _ _ => ?_)))
  all_goals (first | (first | (first | with_reducible assumption | with_reducible exact rg_wi _ | (unfold Rg; omega)) | with_reducible exact (h).a | with_reducible exact (h).b | with_reducible exact (h).d | with_reducible exact (h).i | with_reducible exact (h).j | with_reducible exact (h).n | with_reducible exact (h).t) | (with_reducible refine Good.some_ ?_; refine ⟨Same.of ?_ ?_ ?_ ?_, ?_⟩ <;> (try unfold r8end_s) <;> (try dsimp only) <;> first | (first | with_reducible exact h | (constructor <;> (try dsimp only) <;> first | with_reducible exact (h).a | with_reducible exact (h).b | with_reducible exact (h).d | with_reducible exact (h).i | with_reducible exact (h).j | with_reducible exact (h).n | with_reducible exact (h).t | with_reducible exact (h).l | with_reducible exact (h).ln | with_reducible exact (h).cap | (first | with_reducible assumption | with_reducible exact rg_wi _ | (unfold Rg; omega)))) | (first | (first | with_reducible assumption | with_reducible exact rg_wi _ | (unfold Rg; omega)) | with_reducible exact (h).a | with_reducible exact (h).b | with_reducible exact (h).d | with_reducible exact (h).i | with_reducible exact (h).j | with_reducible exact (h).n | with_reducible exact (h).t) | with_reducible exact he1 | with_reducible assumption))
theorem drain_good (h : FrR K f) : Same K f (r8drain_s c m f).1 (r8drain_s c m f).2.2 := by
  have key : Good (some (r8drain_s c m f)) fun o => Same K f o.1 o.2.2 := by
    unfold r8drain_s
    simp only [bT]
    refine .some_ ?_
    split
    · split <;> refine Same.of ?_ ?_ ?_ ?_ <;> (try unfold r8end_s) <;> (try dsimp only) <;> first | (first | with_reducible exact h | (constructor <;> (try dsimp only) <;> first | with_reducible exact (h).a | with_reducible exact (h).b | with_reducible exact (h).d | with_reducible exact (h).i | with_reducible exact (h).j | with_reducible exact (h).n | with_reducible exact (h).t | with_reducible exact (h).l | with_reducible exact (h).ln | with_reducible exact (h).cap | (first | with_reducible assumption | with_reducible exact rg_wi _ | (unfold Rg; omega)))) | (first | (first | with_reducible assumption | with_reducible exact rg_wi _ | (unfold Rg; omega)) | with_reducible exact (h).a | with_reducible exact (h).b | with_reducible exact (h).d | with_reducible exact (h).i | with_reducible exact (h).j | with_reducible exact (h).n | with_reducible exact (h).t)
    · refine Same.of ?_ ?_ ?_ ?_ <;> (try unfold r8end_s) <;> (try dsimp only) <;> first | (first | with_reducible exact h | (constructor <;> (try dsimp only) <;> first | with_reducible exact (h).a | with_reducible exact (h).b | with_reducible exact (h).d | with_reducible exact (h).i | with_reducible exact (h).j | with_reducible exact (h).n | with_reducible exact (h).t | with_reducible exact (h).l | with_reducible exact (h).ln | with_reducible exact (h).cap | (first | with_reducible assumption | with_reducible exact rg_wi _ | (unfold Rg; omega)))) | (first | (first | with_reducible assumption | with_reducible exact rg_wi _ | (unfold Rg; omega)) | with_reducible exact (h).a | with_reducible exact (h).b | with_reducible exact (h).d | with_reducible exact (h).i | with_reducible exact (h).j | with_reducible exact (h).n | with_reducible exact (h).t)
  obtain ⟨x, e, hx⟩ := key
  obtain rfl := Option.some.inj e
  exact hx
end
end
section
open Go
def TopL (l : List Int) : Int := at_ l ((l.length : Int) - 1)
section
variable {K : Nat} {c : Cfg} {m : MemV} {f : FrV} {evs : List Ev} {recs : List RecV} {now draw : Int}
theorem len_wi {n K : Nat} (h : n ≤ K) (hK : K ≤ 1000000000) : wi ((n : Int) - 1) = (n : Int) - 1 := wi_id (by unfold Rg; omega)
theorem top_good (hl : f.l ≠ []) (h : f.l.length ≤ K) (hK : K ≤ 1000000000) : Good (r8top_s f) fun v => v = TopL f.l := by
  unfold r8top_s
  have h0 := List.length_pos_iff.2 hl
  rw [len_wi h hK]
  exact .guard (by omega) fun _ => .some_ rfl
theorem top_mem (hl : f.l ≠ []) : TopL f.l ∈ f.l := by
  have h0 := List.length_pos_iff.2 hl
  exact at_mem (by omega)
/-- What a frame of Run is when it may be looked at from outside. -/
def RunTop (c : Cfg) (f : FrV) : Prop := f.l ≠ [] ∧ f.line ≠ 3 ∧ f.line ≠ 5 ∧ (f.line ≠ 1 → f.line ≠ 23 → 0 ≤ TopL f.l ∧ TopL f.l < c.tasks)
/-- A frame of Run that its own line has left: it is done, or it may be looked at. -/
structure RunP (K : Nat) (c : Cfg) (f : FrV) (r : ResV) (f' : FrV) : Prop where
  fr : FrR (K + 1) f'
  kind : f'.kind = f.kind
  val : Rg r.value
  top : r.done = false → RunTop c f'
theorem leave_good (h : FrR K f) (hl : f.l ≠ []) (hK : K ≤ 1000000000) : Good (r8leave_s f) fun o => RunP K c f o.1 o.2 := by
  have h0 := List.length_pos_iff.2 hl
  unfold r8leave_s
  rw [len_wi h.ln hK]
  have hf : FrR (K + 1) ({ f with line := 1, l := (f.l.take (((f.l.length : Nat) : Int) - 1).toNat) } : FrV) := by
    have hln : (f.l.take (((f.l.length : Nat) : Int) - 1).toNat).length ≤ K + 1 := by have := h.ln; simp; omega
    have hl2 : ∀ x ∈ f.l.take (((f.l.length : Nat) : Int) - 1).toNat, Rg x := fun x hx => h.l x (List.mem_of_mem_take hx)
    constructor <;> dsimp only <;> first | exact hln | exact hl2 | exact h.cap | (first | (first | with_reducible assumption | with_reducible exact rg_wi _ | (unfold Rg; omega)) | with_reducible exact (h).a | with_reducible exact (h).b | with_reducible exact (h).d | with_reducible exact (h).i | with_reducible exact (h).j | with_reducible exact (h).n | with_reducible exact (h).t)
  refine .guard (by omega) fun _ => Good.ite (fun _ => .some_ ⟨hf, rfl, ?_, fun e => by cases e⟩) fun h1 => .some_ ⟨hf, rfl, ?_, fun _ => ⟨?_, ?_, ?_, fun e => absurd rfl e⟩⟩
  · show Rg 0; (first | with_reducible assumption | with_reducible exact rg_wi _ | (unfold Rg; omega))
  · show Rg 0; (first | with_reducible assumption | with_reducible exact rg_wi _ | (unfold Rg; omega))
  · intro e
    apply h1
    show ((f.l.take _).length : Int) = 0
    rw [show f.l.take (((f.l.length : Nat) : Int) - 1).toNat = [] from e]; rfl
  · show (1 : Int) ≠ 3; omega
  · show (1 : Int) ≠ 5; omega
theorem finish_good {t : Int} (h : FrR K f) (he : EvsR K evs) (ht : Rg t) (hl : f.l ≠ []) (htop : 0 ≤ TopL f.l ∧ TopL f.l < c.tasks) (hK : K ≤ 1000000000) : Good (r8finish_s c m recs evs f t) fun o => RunP K c f o.1 o.2.2.2 ∧ EvsR (K + 1) o.2.2.1 := by
  have he1 := he.up
  have go : ∀ (n x : Int), Rg x → n ≠ 3 → n ≠ 5 → RunP K c f (⟨false, 0, 0⟩ : ResV) ({ f with line := n, n := x } : FrV) := fun n x hx h3 h5 => by
    refine ⟨?_, rfl, by show Rg 0; (first | with_reducible assumption | with_reducible exact rg_wi _ | (unfold Rg; omega)), fun _ => ⟨hl, h3, h5, fun _ _ => htop⟩⟩
    have h' := h.up
    constructor <;> dsimp only <;> first | exact h'.l | exact h'.ln | exact h'.cap | exact hx | (first | (first | with_reducible assumption | with_reducible exact rg_wi _ | (unfold Rg; omega)) | with_reducible exact (h).a | with_reducible exact (h).b | with_reducible exact (h).d | with_reducible exact (h).i | with_reducible exact (h).j | with_reducible exact (h).n | with_reducible exact (h).t)
  unfold r8finish_s
  refine Good.ite (fun _ => Good.bT fun r _ => .some_ ⟨go 18 f.n h.n (by omega) (by omega), he1⟩) fun _ => Good.ite (fun _ => Good.bT fun r _ => ?_) fun _ => Good.bT fun r _ => Good.ite (fun _ => ?_) fun _ => ?_
  · refine (emit_good he hK (by (first | with_reducible assumption | with_reducible exact rg_wi _ | (unfold Rg; omega))) h.a ht (by (first | with_reducible assumption | with_reducible exact rg_wi _ | (unfold Rg; omega))) (by (first | with_reducible assumption | with_reducible exact rg_wi _ | (unfold Rg; omega)))).bind fun es he2 => Good.ite (fun _ => ?_) fun _ => .some_ ⟨go 19 f.n h.n (by omega) (by omega), he2⟩
    exact (leave_good h hl hK).bind fun o ho => .some_ ⟨ho, he2⟩
  · have h2 : FrR K ({ f with n := (wi (wu (r.1 - 1))) } : FrV) := by constructor <;> dsimp only <;> first | exact h.l | exact h.ln | exact h.cap | (first | (first | with_reducible assumption | with_reducible exact rg_wi _ | (unfold Rg; omega)) | with_reducible exact (h).a | with_reducible exact (h).b | with_reducible exact (h).d | with_reducible exact (h).i | with_reducible exact (h).j | with_reducible exact (h).n | with_reducible exact (h).t)
    exact (leave_good (f := { f with n := (wi (wu (r.1 - 1))) }) h2 hl hK).bind fun o ho => .some_ ⟨⟨ho.fr, ho.kind, ho.val, ho.top⟩, he1⟩
  · exact .some_ ⟨go 20 _ (rg_wi _) (by omega) (by omega), he1⟩
/-- The instruction that the task stands at is there. -/
def PcIn (c : Cfg) (recs : List RecV) (t : Int) : Prop := ∃ p, eprogram_s c recs t = some p ∧ 0 ≤ (at_ recs t).pc ∧ (at_ recs t).pc < (p.length : Int)
theorem prog_good {t : Int} (hr : RcsR K c recs) (ht : 0 ≤ t ∧ t < c.tasks) (hc : CfgOk c) : Good (eprogram_s c recs t) fun p => ∀ x ∈ p, Rg x.a ∧ Rg x.b ∧ (x.op ≠ 0 → x.op ≠ 1 → 0 ≤ x.a) := by
  unfold eprogram_s
  refine .guard (by have := hr.1; omega) fun _ => Good.ite (fun _ => .some_ fun x hx => by cases hx) fun h => ?_
  have h2 : 0 ≤ (at_ recs t).prog ∧ (at_ recs t).prog < (c.progs.length : Int) := by omega
  exact .guard h2 fun _ => .some_ (hc.ins _ (at_mem h2))
theorem run_good (h : FrR K f) (he : EvsR K evs) (hr : RcsR K c recs) (hl : f.l ≠ []) (htop : f.line ≠ 23 → 0 ≤ TopL f.l ∧ TopL f.l < c.tasks) (hpc : f.line = 3 → PcIn c recs (TopL f.l)) (hc : CfgOk c) (hK : K ≤ 1000000000) :
    Good (r8run_s c m recs evs f) fun o => RunP K c f o.1 o.2.2.2.2 ∧ RcsR K c o.2.2.1 ∧ EvsR (K + 1) o.2.2.2.1 := by
  have he1 := he.up
  have h' := h.up
  have ht : Rg (TopL f.l) := h.l _ (top_mem hl)
  unfold r8run_s
  refine (top_good hl h.ln hK).bind fun r2 e => ?_
  subst e
  refine Good.ite (fun _ => .some_ ⟨⟨h', rfl, by show Rg 0; (first | with_reducible assumption | with_reducible exact rg_wi _ | (unfold Rg; omega)), fun e => by cases e⟩, hr, he1⟩) fun h23 => ?_
  have hT := htop h23
  have hT2 : 0 ≤ TopL f.l ∧ TopL f.l < (recs.length : Int) := by have := hr.1; omega
  have go : ∀ (n x : Int), Rg x → n ≠ 3 → n ≠ 5 → RunP K c f (⟨false, 0, 0⟩ : ResV) ({ f with line := n, t := x } : FrV) := fun n x hx h3 h5 => by
    refine ⟨?_, rfl, by show Rg 0; (first | with_reducible assumption | with_reducible exact rg_wi _ | (unfold Rg; omega)), fun _ => ⟨hl, h3, h5, fun _ _ => hT⟩⟩
    constructor <;> dsimp only <;> first | exact h'.l | exact h'.ln | exact h'.cap | exact hx | (first | (first | with_reducible assumption | with_reducible exact rg_wi _ | (unfold Rg; omega)) | with_reducible exact (h).a | with_reducible exact (h).b | with_reducible exact (h).d | with_reducible exact (h).i | with_reducible exact (h).j | with_reducible exact (h).n | with_reducible exact (h).t)
  have hat := hr.at hT2
  refine .guard hT2 fun _ => ?_
  refine Good.ite (fun _ => Good.bT fun _ _ => .some_ ⟨go 1 f.t h.t (by omega) (by omega), hr.set hat, he1⟩) fun _ => ?_
  refine Good.ite (fun e3 => ?_) fun _ => ?_
  · refine Good.ite (fun _ => ?_) fun _ => Good.ite (fun _ => .some_ ⟨go 1 f.t h.t (by omega) (by omega), hr.set hat, he1⟩) fun _ => .some_ ⟨go 1 f.t h.t (by omega) (by omega), hr.set hat, he1⟩
    obtain ⟨p, ep, hp⟩ := hpc e3
    rw [ep]
    refine (Good.some_ (P := fun q => q = p) rfl).bind fun q e => ?_
    subst e
    have hr1 : RcsR K c (st_ recs (TopL f.l) ({ (at_ recs (TopL f.l)) with left := (at_ q ((at_ recs (TopL f.l)).pc)).a } : RecV)) := hr.set hat
    have hat1 := hr1.at (i := TopL f.l) (by have := hr1.1; omega)
    exact .guard hp fun _ => Good.ite (fun _ => .some_ ⟨go 1 f.t h.t (by omega) (by omega), hr1.set hat1, he1⟩) fun _ => .some_ ⟨go 1 f.t h.t (by omega) (by omega), hr1.set hat1, he1⟩
  refine Good.ite (fun _ => .some_ ⟨go 1 f.t h.t (by omega) (by omega), hr.set hat, he1⟩) fun _ => ?_
  refine Good.ite (fun _ => Good.bT fun _ _ => .some_ ⟨go 11 f.t h.t (by omega) (by omega), hr.set hat, he1⟩) fun _ => ?_
  refine Good.ite (fun _ => Good.bT fun _ _ => .some_ ⟨go 12 f.t h.t (by omega) (by omega), hr, he1⟩) fun _ => ?_
  refine Good.ite (fun _ => Good.bT fun _ _ => Good.ite (fun _ => ?_) fun _ => .some_ ⟨go 15 f.t h.t (by omega) (by omega), hr, he1⟩) fun _ => ?_
  · exact (emit_good he hK (by (first | with_reducible assumption | with_reducible exact rg_wi _ | (unfold Rg; omega))) h.a ht h.j (by (first | with_reducible assumption | with_reducible exact rg_wi _ | (unfold Rg; omega)))).bind fun es he2 => .some_ ⟨go 13 f.t h.t (by omega) (by omega), hr, he2⟩
  refine Good.ite (fun _ => Good.bT fun _ _ => .some_ ⟨go 14 _ (rg_wi _) (by omega) (by omega), hr, he1⟩) fun _ => ?_
  refine Good.ite (fun _ => Good.bT fun _ _ => .some_ ⟨go 16 f.t h.t (by omega) (by omega), hr, he1⟩) fun _ => ?_
  refine Good.ite (fun _ => Good.bT fun _ _ => ?_) fun _ => ?_
  · exact (emit_good he hK (by (first | with_reducible assumption | with_reducible exact rg_wi _ | (unfold Rg; omega))) h.a ht h.j (by (first | with_reducible assumption | with_reducible exact rg_wi _ | (unfold Rg; omega)))).bind fun es he2 => .some_ ⟨go 1 f.t h.t (by omega) (by omega), hr.set hat, he2⟩
  exact (finish_good h he ht hl hT hK).bind fun o ho => .some_ ⟨ho.1, hr, ho.2⟩
theorem client_good (h : FrR K f) (he : EvsR K evs) (hi : 0 ≤ f.i ∧ f.i ≤ (c.subs.length : Int)) (hc : CfgOk c) (hK : K ≤ 1000000000) :
    Good (r8client_s c m now evs f) fun o => Same K f o.1 o.2.2.2 ∧ o.2.2.2.i = f.i ∧ EvsR (K + 1) o.2.2.1 := by
  have he1 := he.up
  have hw : Rg c.workers := by have := hc.w1; have := hc.w2; (first | with_reducible assumption | with_reducible exact rg_wi _ | (unfold Rg; omega))
  unfold r8client_s
  refine Good.ite (fun _ => .some_ ⟨⟨h, rfl, rfl, by show Rg 0; (first | with_reducible assumption | with_reducible exact rg_wi _ | (unfold Rg; omega))⟩, rfl, he1⟩) fun h1 => .guard (by omega) fun _ => ?_
  (repeat' (first | with_reducible refine Good.ite (fun _ => ?_) (fun _ => ?_) | with_reducible refine Good.bT (fun _ _ => ?_) | with_reducible refine Good.bind (mask_good _) (fun _ _ => ?_) | with_reducible refine Good.bind (bit_good _ _) (fun _ _ => ?_) | with_reducible refine Good.bind (low_good _) (fun _ _ => ?_) | with_reducible refine Good.bind (high_good _) (fun _ _ => ?_) | with_reducible refine Good.bind (unpack_good _) (fun _ _ => ?_) | with_reducible refine Good.bind (class_good _ _ _) (fun _ _ => ?_) | with_reducible refine Good.bind (emit_good he hK ?_ ?_ ?_ ?_ ?_) (fun _ _ => ?_)))
  all_goals first | (first | (first | with_reducible assumption | with_reducible exact rg_wi _ | (unfold Rg; omega)) | with_reducible exact (h).a | with_reducible exact (h).b | with_reducible exact (h).d | with_reducible exact (h).i | with_reducible exact (h).j | with_reducible exact (h).n | with_reducible exact (h).t) | (with_reducible refine Good.some_ ?_; refine ⟨Same.of ?_ ?_ ?_ ?_, rfl, ?_⟩ <;> (try unfold r8end_s) <;> (try dsimp only) <;> first | (first | with_reducible exact h | (constructor <;> (try dsimp only) <;> first | with_reducible exact (h).a | with_reducible exact (h).b | with_reducible exact (h).d | with_reducible exact (h).i | with_reducible exact (h).j | with_reducible exact (h).n | with_reducible exact (h).t | with_reducible exact (h).l | with_reducible exact (h).ln | with_reducible exact (h).cap | (first | with_reducible assumption | with_reducible exact rg_wi _ | (unfold Rg; omega)))) | (first | (first | with_reducible assumption | with_reducible exact rg_wi _ | (unfold Rg; omega)) | with_reducible exact (h).a | with_reducible exact (h).b | with_reducible exact (h).d | with_reducible exact (h).i | with_reducible exact (h).j | with_reducible exact (h).n | with_reducible exact (h).t) | with_reducible exact he1 | with_reducible assumption)
end
end
end Go.Proofs.YtpbkelpokpglaaaGreat
