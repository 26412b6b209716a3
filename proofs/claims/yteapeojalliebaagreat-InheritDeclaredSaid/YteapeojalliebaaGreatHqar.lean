/- Who has a task, and what its cells say: what holds between steps, and how a step keeps it. No program occurs here. What a step leaves of the tasks' states: the machines that change none. Who has a task, in the program's memory: single changes of the cells, the records and the events. Who has a task, in the program's memory: what each line that touches a task does. Who has a task: Run, a worker, the client. Who has a task: what holds of an engine between its entries. What InheritDeclared calls, in the evaluator's form. -/
import Derived.Test.YteapeojalliebaaGreatHqaq
import Derived.Test.YteapeojalliebaaGreatHqan
set_option linter.all false
namespace Go.Proofs.YteapeojalliebaaGreat
section
inductive Ts where
  | fresh | alloc (m : Nat) | acc (m : Nat) | ready | run (m : Nat) | bm (m : Nat) | wait (u : Int) | fin (m : Nat) | fg (m : Nat) | done
inductive Ph where
  | n | p (id : Int) | q (id : Int) | j (t u : Int) | b (t u : Int) | r (t : Int) | f (t : Int) | g (t : Int) | h (t x : Int)
def upd {α : Type} (f : Int → α) (a : Int) (v : α) (x : Int) : α := if x = a then v else f x
def aoz {α : Type} (f : Nat → α) (a : Nat) (v : α) (x : Nat) : α := if x = a then v else f x
theorem ahX {α : Type} {f : Int → α} {a : Int} {v : α} : upd f a v a = v := if_pos rfl
theorem abY {α : Type} {f : Int → α} {a x : Int} {v : α} (h : x ≠ a) : upd f a v x = f x := if_neg h
theorem acH {α : Type} {f : Nat → α} {a : Nat} {v : α} : aoz f a v a = v := if_pos rfl
theorem aek {α : Type} {f : Nat → α} {a x : Nat} {v : α} (h : x ≠ a) : aoz f a v x = f x := if_neg h
def Ts.mine : Ts → Option Nat
  | .alloc m => some m
  | .acc m => some m
  | .run m => some m
  | .bm m => some m
  | .fin m => some m
  | .fg m => some m
  | _ => none
def Ts.over : Ts → Prop
  | .fg _ => True
  | .done => True
  | _ => False
structure Ab where
  T : Int
  N : Int
  S : Int → Int
  J : Int → Int
  wa : Int → Int
  st : Int → Bool
  kn : Int → Nat
  sn : Int → Nat
  fn : Int → Nat
  ts : Int → Ts
  hd : Nat → List Int
  ph : Nat → Ph
def Ab.ok (a : Ab) (t : Int) : Prop := 0 ≤ t ∧ t < a.T
def aHn (s : Ts) (S wa J : Int) (st : Bool) (kn fn : Nat) : Prop := match s with
  | .fresh => S = 0 ∧ st = false ∧ kn = 0 ∧ fn = 0
  | .alloc _ => S = 0 ∧ st = false ∧ kn = 0 ∧ fn = 0
  | .acc _ => S = 0 ∧ st = false ∧ kn = 1 ∧ fn = 0
  | .ready => S = 1 ∧ kn = 1 ∧ fn = 0
  | .run _ => S = 2 ∧ st = true ∧ kn = 1 ∧ fn = 0
  | .bm _ => S = 3 ∧ st = true ∧ kn = 1 ∧ fn = 0
  | .wait u => S = 3 ∧ st = true ∧ kn = 1 ∧ fn = 0 ∧ wa = u
  | .fin _ => S = 4 ∧ st = true ∧ kn = 1 ∧ fn = 0
  | .fg _ => S = 4 ∧ st = true ∧ kn = 1 ∧ fn = 1 ∧ J ≠ 0
  | .done => S = 4 ∧ st = true ∧ kn = 1 ∧ fn = 1 ∧ J ≠ 0
def Cl (N t : Int) (s : Ts) (S wa J : Int) (st : Bool) (kn sn fn : Nat) : Prop :=
  (sn = if st = true then 1 else 0) ∧ (s = .fresh ↔ N ≤ t) ∧ aHn s S wa J st kn fn
def Ab.phOk (a : Ab) (m : Nat) (hd : List Int) : Ph → Prop
  | .n => True
  | .p i => a.ok i ∧ a.ts i = .alloc m
  | .q i => a.ok i ∧ a.ts i = .acc m
  | .j t u => t ∈ hd ∧ a.wa t = u
  | .b t u => a.ok t ∧ a.ts t = .bm m ∧ a.wa t = u
  | .r t => a.ok t ∧ a.ts t = .bm m
  | .f t => a.ok t ∧ a.ts t = .fin m
  | .g t => a.ok t ∧ a.ts t = .fg m ∧ ∀ w, a.ok w → a.J t = w + 1 → a.ts w = .wait t
  | .h t x => a.ok t ∧ a.ts t = .fg m ∧ a.ok x ∧ a.ts x = .wait t
structure LA (a : Ab) : Prop where
  n0 : 0 ≤ a.N
  no : ∀ t, ¬ a.ok t → a.kn t = 0 ∧ a.sn t = 0 ∧ a.fn t = 0
  cl : ∀ t, a.ok t → Cl a.N t (a.ts t) (a.S t) (a.wa t) (a.J t) (a.st t) (a.kn t) (a.sn t) (a.fn t)
  hd : ∀ m t, t ∈ a.hd m → a.ok t ∧ a.ts t = .run m
  nd : ∀ m, (a.hd m).Nodup
  ph : ∀ m, a.phOk m (a.hd m) (a.ph m)
  j1 : ∀ u w, a.ok u → a.ok w → ¬ (a.ts u).over → a.J u = w + 1 → a.ts w = .wait u
  jb : ∀ u, a.ok u → a.J u ≤ 4294967296
  c4 : ∀ m t, a.ok t → a.ts t = .fin m → a.ph m = .f t
theorem LA.put {a : Ab} (h : LA a) {m : Nat} {t : Int} (ht : a.ok t) {s : Ts} {S wa : Int} {st : Bool} {kn sn fn : Nat} {l : List Int} {p : Ph}
    (own : ∀ m', (a.ts t).mine = some m' → m' = m) (hw : ∀ u, a.ts t = .wait u → a.ok u ∧ a.ts u = .fg m)
    (ho : (a.ts t).over → s.over) (hc : Cl a.N t s S wa (a.J t) st kn sn fn)
    (hl : ∀ x ∈ l, (x = t ∧ s = .run m) ∨ (x ≠ t ∧ x ∈ a.hd m)) (hn : l.Nodup)
    (h4 : ∀ m', s = .fin m' → m' = m ∧ p = .f t) (h5 : ∀ x, x ≠ t → a.ph m ≠ .f x)
    (hp : Ab.phOk { a with S := upd a.S t S, wa := upd a.wa t wa, st := upd a.st t st, kn := upd a.kn t kn, sn := upd a.sn t sn, fn := upd a.fn t fn, ts := upd a.ts t s } m l p) :
    LA { a with S := upd a.S t S, wa := upd a.wa t wa, st := upd a.st t st, kn := upd a.kn t kn, sn := upd a.sn t sn, fn := upd a.fn t fn, ts := upd a.ts t s, hd := aoz a.hd m l, ph := aoz a.ph m p } where
  n0 := h.n0
  no x hx := by
    have hx' : x ≠ t := fun k => hx (by rw [k]; exact ht)
    have := h.no x hx
    simp only [abY hx']
    exact this
  cl x hx := by
    by_cases hxt : x = t
    · subst hxt; simp only [ahX]; exact hc
    · simp only [abY hxt]; exact h.cl x hx
  hd i x hx := by
    by_cases hi : i = m
    · subst hi
      simp only [acH] at hx
      rcases hl x hx with ⟨k, k2⟩ | ⟨k, k2⟩
      · subst k; exact ⟨ht, by simp only [ahX]; exact k2⟩
      · have := h.hd i x k2
        exact ⟨this.1, by simp only [abY k]; exact this.2⟩
    · simp only [aek hi] at hx
      have := h.hd i x hx
      have hxt : x ≠ t := fun k => by
        rw [k] at this
        exact hi (own i (by rw [this.2]; rfl))
      exact ⟨this.1, by simp only [abY hxt]; exact this.2⟩
  nd i := by
    by_cases hi : i = m
    · subst hi; simp only [acH]; exact hn
    · simp only [aek hi]; exact h.nd i
  ph i := by
    by_cases hi : i = m
    · subst hi; simp only [acH]; revert hp; cases p <;> exact id
    · simp only [aek hi]
      have hv := h.ph i
      have key : ∀ {x s}, a.ts x = s → s.mine = some i → x ≠ t := fun e1 e2 k => hi (own i (by rw [← k, e1]; exact e2))
      have key2 : ∀ {x u}, a.ts x = .wait u → a.ts u = .fg i → x ≠ t := fun e1 e2 k => hi (by
        have := (hw _ (k ▸ e1)).2
        rw [e2] at this
        exact Ts.fg.inj this)
      cases hq : a.ph i with
      | n => trivial
      | p x => rw [hq] at hv; exact ⟨hv.1, by simp only [abY (key hv.2 rfl)]; exact hv.2⟩
      | q x => rw [hq] at hv; exact ⟨hv.1, by simp only [abY (key hv.2 rfl)]; exact hv.2⟩
      | j x u => rw [hq] at hv; exact ⟨hv.1, by simp only [abY (key (h.hd i x hv.1).2 rfl)]; exact hv.2⟩
      | b x u => rw [hq] at hv; exact ⟨hv.1, by simp only [abY (key hv.2.1 rfl)]; exact hv.2.1, by simp only [abY (key hv.2.1 rfl)]; exact hv.2.2⟩
      | r x => rw [hq] at hv; exact ⟨hv.1, by simp only [abY (key hv.2 rfl)]; exact hv.2⟩
      | f x => rw [hq] at hv; exact ⟨hv.1, by simp only [abY (key hv.2 rfl)]; exact hv.2⟩
      | g x => rw [hq] at hv; exact ⟨hv.1, by simp only [abY (key hv.2.1 rfl)]; exact hv.2.1, fun w hw1 hj => by
          have := hv.2.2 w hw1 hj
          simp only [abY (key2 this hv.2.1)]; exact this⟩
      | h x w => rw [hq] at hv; exact ⟨hv.1, by simp only [abY (key hv.2.1 rfl)]; exact hv.2.1, hv.2.2.1, by simp only [abY (key2 hv.2.2.2 hv.2.1)]; exact hv.2.2.2⟩
  j1 u w hu hw1 ho1 hj := by
    have ho2 : ¬ (a.ts u).over := fun k => by
      by_cases hut : u = t
      · subst hut; simp only [ahX] at ho1; exact ho1 (ho k)
      · simp only [abY hut] at ho1; exact ho1 k
    have := h.j1 u w hu hw1 ho2 hj
    have hwt : w ≠ t := fun k => by
      subst k
      have := (hw u this).2
      rw [this] at ho2
      exact ho2 trivial
    simp only [abY hwt]; exact this
  jb := h.jb
  c4 i x hx hf := by
    by_cases hxt : x = t
    · subst hxt
      simp only [ahX] at hf
      obtain ⟨k1, k2⟩ := h4 i hf
      subst k1; simp only [acH]; exact k2
    · simp only [abY hxt] at hf
      have := h.c4 i x hx hf
      have hi : i ≠ m := fun k => h5 x hxt (k ▸ this)
      simp only [aek hi]; exact this
theorem LA.step {a : Ab} (h : LA a) {m : Nat} {l : List Int} {p : Ph} (hl : ∀ x ∈ l, x ∈ a.hd m) (hn : l.Nodup) (hf : ∀ x, a.ph m = .f x → p = .f x) (hp : a.phOk m l p) :
    LA { a with hd := aoz a.hd m l, ph := aoz a.ph m p } where
  n0 := h.n0
  no := h.no
  cl := h.cl
  hd i x hx := by
    by_cases hi : i = m
    · subst hi; simp only [acH] at hx; exact h.hd i x (hl x hx)
    · simp only [aek hi] at hx; exact h.hd i x hx
  nd i := by
    by_cases hi : i = m
    · subst hi; simp only [acH]; exact hn
    · simp only [aek hi]; exact h.nd i
  ph i := by
    by_cases hi : i = m
    · subst hi; simp only [acH]; revert hp; cases p <;> exact id
    · simp only [aek hi]
      have hv := h.ph i
      revert hv
      cases a.ph i <;> exact id
  j1 := h.j1
  jb := h.jb
  c4 i x hx hq := by
    have := h.c4 i x hx hq
    by_cases hi : i = m
    · subst hi; simp only [acH]; exact hf x this
    · simp only [aek hi]; exact this
theorem LA.next {a : Ab} (h : LA a) {n : Int} (hn : a.N ≤ n) (ht : a.T ≤ a.N) : LA { a with N := n } where
  n0 := by have := h.n0; show 0 ≤ n; omega
  no := h.no
  cl x hx := by
    obtain ⟨c1, c2, c3⟩ := h.cl x hx
    have hx2 : x < a.T := hx.2
    exact ⟨c1, ⟨fun k => by have := c2.1 k; omega, fun k => by have k : n ≤ x := k; omega⟩, c3⟩
  hd := h.hd
  nd := h.nd
  ph i := by
    have hq := h.ph i
    revert hq
    cases a.ph i <;> exact id
  j1 := h.j1
  jb := h.jb
  c4 := h.c4
theorem LA.alloc {a : Ab} (h : LA a) {m : Nat} (ht : a.N < a.T) {l : List Int} (hl : ∀ x ∈ l, x ∈ a.hd m) (hn : l.Nodup) (hp : a.ph m = .n) :
    LA { a with N := a.N + 1, st := upd a.st a.N false, wa := upd a.wa a.N (-1), ts := upd a.ts a.N (.alloc m), hd := aoz a.hd m l, ph := aoz a.ph m (.p a.N) } := by
  have hok : a.ok a.N := ⟨h.n0, ht⟩
  have hN := h.cl _ hok
  have hfr : a.ts a.N = .fresh := hN.2.1.2 (Int.le_refl _)
  have hne : ∀ {x s}, a.ts x = s → s ≠ .fresh → x ≠ a.N := fun e1 e2 k => e2 (by rw [← e1, k, hfr])
  rw [hfr] at hN
  obtain ⟨n1, n2, n3⟩ := hN
  refine ⟨by show 0 ≤ a.N + 1; have := h.n0; omega, h.no, fun x hx => ?_, fun i x hx => ?_, fun i => ?_, fun i => ?_, fun u w hu hw ho hj => ?_, h.jb, fun i x hx hf => ?_⟩
  · by_cases hxN : x = a.N
    · subst hxN
      simp only [ahX]
      refine ⟨by rw [n1, n3.2.1], ⟨fun k => (by cases k), fun k => (by have k : a.N + 1 ≤ a.N := k; omega)⟩, n3.1, rfl, n3.2.2.1, n3.2.2.2⟩
    · simp only [abY hxN]
      obtain ⟨c1, c2, c3⟩ := h.cl x hx
      exact ⟨c1, ⟨fun k => by have := c2.1 k; omega, fun k => c2.2 (by omega)⟩, c3⟩
  · have key : x ∈ a.hd i := by
      by_cases hi : i = m
      · subst hi; simp only [acH] at hx; exact hl x hx
      · simp only [aek hi] at hx; exact hx
    have := h.hd i x key
    exact ⟨this.1, by simp only [abY (hne this.2 (by intro k; cases k))]; exact this.2⟩
  · by_cases hi : i = m
    · subst hi; simp only [acH]; exact hn
    · simp only [aek hi]; exact h.nd i
  · by_cases hi : i = m
    · subst hi; simp only [acH]; exact ⟨hok, by simp only [ahX]⟩
    · simp only [aek hi]
      have hv := h.ph i
      cases hq : a.ph i with
      | n => trivial
      | p x => rw [hq] at hv; exact ⟨hv.1, by simp only [abY (hne hv.2 (by intro k; cases k))]; exact hv.2⟩
      | q x => rw [hq] at hv; exact ⟨hv.1, by simp only [abY (hne hv.2 (by intro k; cases k))]; exact hv.2⟩
      | j x u => rw [hq] at hv; exact ⟨hv.1, by simp only [abY (hne (h.hd i x hv.1).2 (by intro k; cases k))]; exact hv.2⟩
      | b x u => rw [hq] at hv; exact ⟨hv.1, by simp only [abY (hne hv.2.1 (by intro k; cases k))]; exact hv.2.1, by simp only [abY (hne hv.2.1 (by intro k; cases k))]; exact hv.2.2⟩
      | r x => rw [hq] at hv; exact ⟨hv.1, by simp only [abY (hne hv.2 (by intro k; cases k))]; exact hv.2⟩
      | f x => rw [hq] at hv; exact ⟨hv.1, by simp only [abY (hne hv.2 (by intro k; cases k))]; exact hv.2⟩
      | g x => rw [hq] at hv; exact ⟨hv.1, by simp only [abY (hne hv.2.1 (by intro k; cases k))]; exact hv.2.1, fun w hw1 hj => by
          have := hv.2.2 w hw1 hj
          simp only [abY (hne this (by intro k; cases k))]; exact this⟩
      | h x w => rw [hq] at hv; exact ⟨hv.1, by simp only [abY (hne hv.2.1 (by intro k; cases k))]; exact hv.2.1, hv.2.2.1, by simp only [abY (hne hv.2.2.2 (by intro k; cases k))]; exact hv.2.2.2⟩
  · have ho2 : ¬ (a.ts u).over := fun k => by
      by_cases hut : u = a.N
      · rw [hut, hfr] at k; exact k
      · simp only [abY hut] at ho; exact ho k
    have := h.j1 u w hu hw ho2 hj
    simp only [abY (hne this (by intro k; cases k))]; exact this
  · have hxN : x ≠ a.N := fun k => by
      rw [k] at hf; simp only [ahX] at hf; cases hf
    simp only [abY hxN] at hf
    have := h.c4 i x hx hf
    have hi : i ≠ m := fun k => by rw [k, hp] at this; cases this
    simp only [aek hi]; exact this
end
section
open Go Go.RowKit
set_option maxRecDepth 100000
variable [Tb]
abbrev Stt (c : Cfg) (e : EnvP) (t : Int) : Int := e.gt (ac7 (aaI c) t)
abbrev Jo (c : Cfg) (e : EnvP) (t : Int) : Int := e.gt (agU (aaI c) t)
abbrev Wt (c : Cfg) (e : EnvP) (t : Int) : Int := e.gt (af2 (aaI c) t)
structure Qs (c : Cfg) (e e' : EnvP) : Prop where
  st : ∀ t, Stt c e' t = Stt c e t
  jo : ∀ t, Jo c e' t = Jo c e t
  wa : ∀ t, Wt c e' t = Wt c e t
  nx : e'.gt 0 = e.gt 0
  rc : e'.recs = e.recs
  ev : ∃ l, e'.evs = e.evs ++ l ∧ ∀ x ∈ l, 11 ≤ x.kind
def N7 (c : Cfg) (a : Int) : Prop := ckC c a ≠ 0 ∧ ckC c a ≠ 7
section
variable {c : Cfg} {e e' : EnvP} {a v k o w x : Int}
theorem aBq (h : DecOk c) {t f : Int} (hf : 0 ≤ f ∧ f < 5) (hf1 : f ≠ 1) (h0 : 0 ≤ aev (aaI c) t f) : ckC c (aev (aaI c) t f) = 7 := by
  have e1 := aop h (t := t) hf
  have e2 := aeb h (t := t) hf
  by_cases ht : 0 ≤ t ∧ t < c.tasks
  · rw [e1, if_pos ht, if_neg hf1]
  · rw [e2, if_neg ht] at h0; omega
theorem aFC (h : DecOk c) {t u f g : Int} (hf : 0 ≤ f ∧ f < 5) (hg : 0 ≤ g ∧ g < 5) (hne : f ≠ g) (h0 : 0 ≤ aev (aaI c) t f) : aev (aaI c) t f ≠ aev (aaI c) u g := by
  have e1 := aeb h (t := t) hf
  have e2 := aeb h (t := u) hg
  intro k
  by_cases ht : 0 ≤ t ∧ t < c.tasks
  · rw [if_pos ht] at e1
    by_cases hu : 0 ≤ u ∧ u < c.tasks
    · rw [if_pos hu] at e2; omega
    · rw [if_neg hu] at e2; omega
  · rw [e1, if_neg ht] at h0; omega
theorem aDk (h : DecOk c) (ha : N7 c a) {t f : Int} (hf : 0 ≤ f ∧ f < 5) (hf1 : f ≠ 1) : (e.pt k a v).gt (aev (aaI c) t f) = e.gt (aev (aaI c) t f) := by
  rw [al8, if_neg]
  intro h'
  have := aBq h (t := t) hf hf1 (by omega)
  rw [h'.1] at this
  exact ha.2 this
theorem ath (h : DecOk c) {t u f g : Int} (hf : 0 ≤ f ∧ f < 5) (hg : 0 ≤ g ∧ g < 5) (hne : f ≠ g) : (e.pt k (aev (aaI c) u g) v).gt (aev (aaI c) t f) = e.gt (aev (aaI c) t f) := by
  rw [al8, if_neg]
  intro h'
  exact aFC h hf hg hne (by omega) h'.1
theorem aBE (h : DecOk c) {u g : Int} (hg : 0 ≤ g ∧ g < 5) (hg1 : g ≠ 1) : (e.pt k (aev (aaI c) u g) v).gt 0 = e.gt 0 := by
  rw [al8, if_neg]
  intro h'
  have := aBq h (t := u) hg hg1 (by omega)
  rw [← h'.1, agp] at this
  omega
theorem Qs.refl : Qs c e e := ⟨fun _ => rfl, fun _ => rfl, fun _ => rfl, rfl, rfl, [], by simp, fun x hx => by cases hx⟩
theorem Qs.lk : Qs c e (e.lk a) := ⟨fun _ => aut, fun _ => aut, fun _ => aut, aut, rfl, [], by show e.evs = _; simp, fun x hx => by cases hx⟩
theorem Qs.wr (h : DecOk c) (ha : N7 c a) : Qs c e (e.pt k a v) :=
  ⟨fun t => aDk h ha (f := 0) (by omega) (by omega), fun t => aDk h ha (f := 2) (by omega) (by omega), fun t => aDk h ha (f := 3) (by omega) (by omega), by
    rw [al8, if_neg]
    intro h'
    have := ha.1
    rw [← h'.1, agp] at this
    exact this rfl, rfl, [], by show e.evs = _; simp, fun x hx => by cases hx⟩
theorem Qs.since (h : DecOk c) {t : Int} : Qs c e (e.pt k (ali (aaI c) t) v) :=
  ⟨fun t => ath h (f := 0) (by omega) (by omega) (by omega), fun t => ath h (f := 2) (by omega) (by omega) (by omega), fun t => ath h (f := 3) (by omega) (by omega) (by omega), aBE h (by omega) (by omega), rfl, [], by show e.evs = _; simp, fun x hx => by cases hx⟩
theorem Qs.cas (h : DecOk c) (ha : N7 c a) : Qs c e (e.cas a o v) := Qs.wr h ha
theorem Qs.em {t l : Int} (h : Qs c e e') (hk : 11 ≤ k) : Qs c e (e'.em k w t o l) := by
  obtain ⟨m, hm, hp⟩ := h.ev
  refine ⟨h.st, h.jo, h.wa, h.nx, h.rc, m ++ [⟨k, w, t, o, l⟩], by show e'.evs ++ [_] = _; rw [hm, List.append_assoc], fun x hx => ?_⟩
  rcases List.mem_append.1 hx with hx | hx
  · exact hp x hx
  · rw [List.mem_singleton.1 hx]; exact hk
end
def awW (p : Int → Bool) (l : List Ev) (t : Int) : Nat := l.countP fun x => decide (x.task = t) && p x.kind
def kKn (k : Int) : Bool := decide (k = 1 ∨ k = 3)
def kSn (k : Int) : Bool := decide (k = 5)
def kFn (k : Int) : Bool := decide (k = 10)
def rcw (e : EnvP) (t : Int) : Int := if 0 ≤ t then (e.rc t).waiting else -1
def rcs (e : EnvP) (t : Int) : Bool := if 0 ≤ t then (e.rc t).started else false
abbrev Vw := List Int × Ph
def azi (c : Cfg) (e : EnvP) (ts : Int → Ts) (vs : Nat → Vw) : Ab :=
  ⟨c.tasks, e.gt 0, Stt c e, Jo c e, rcw e, rcs e, awW kKn e.evs, awW kSn e.evs, awW kFn e.evs, ts, fun m => (vs m).1, fun m => (vs m).2⟩
structure LI (c : Cfg) (e : EnvP) (vs : Nat → Vw) : Prop where
  rl : (e.recs.length : Int) = c.tasks
  la : ∃ ts, LA (azi c e ts vs)
def Lw (c : Cfg) (e e' : EnvP) (v v' : Vw) : Prop := ∀ m vs, vs m = v → LI c e vs → LI c e' (aoz vs m v')
def Mi (x : Ev) : Prop := x.kind ≠ 1 ∧ x.kind ≠ 3 ∧ x.kind ≠ 5 ∧ x.kind ≠ 10
theorem aw3 {α : Type} {f : Nat → α} {m : Nat} {v : α} (h : f m = v) : aoz f m v = f := funext fun j => by
  unfold aoz; split
  · rename_i k; rw [k, h]
  · rfl
theorem awf {α : Type} {f : Nat → α} {m : Nat} {v w : α} : aoz (aoz f m v) m w = aoz f m w := funext fun j => by
  unfold aoz; split <;> rfl
theorem aDL {p : Int → Bool} {l k : List Ev} {t : Int} : awW p (l ++ k) t = awW p l t + awW p k t := List.countP_append
theorem aA9 {p : Int → Bool} {l : List Ev} {t : Int} (h : ∀ x ∈ l, x.task = t → p x.kind = false) : awW p l t = 0 := by
  unfold awW
  rw [List.countP_eq_zero]
  intro x hx
  by_cases k : x.task = t
  · rw [h x hx k]; simp
  · simp [k]
section
variable {c : Cfg} {e e1 e' : EnvP} {v v1 v' : Vw}
theorem Lw.trans (h1 : Lw c e e1 v v1) (h2 : Lw c e1 e' v1 v') : Lw c e e' v v' := fun m vs hv h => by
  have := h2 m _ acH (h1 m vs hv h)
  rw [awf] at this
  exact this
structure Of1 (c : Cfg) (e e' : EnvP) (t : Int) : Prop where
  st : ∀ x, x ≠ t → Stt c e' x = Stt c e x
  jo : ∀ x, Jo c e' x = Jo c e x
  nx : e'.gt 0 = e.gt 0
  rl : e'.recs.length = e.recs.length
  rc : ∀ x, x ≠ t → 0 ≤ x → e'.rc x = e.rc x
  ev : ∃ l, e'.evs = e.evs ++ l ∧ ∀ y ∈ l, y.task = t ∨ Mi y
theorem aGu {x : Ev} (h : Mi x) : kKn x.kind = false := by unfold kKn; rw [decide_eq_false_iff_not]; unfold Mi at h; omega
theorem aGt {x : Ev} (h : Mi x) : kSn x.kind = false := by unfold kSn; rw [decide_eq_false_iff_not]; unfold Mi at h; omega
theorem aGv {x : Ev} (h : Mi x) : kFn x.kind = false := by unfold kFn; rw [decide_eq_false_iff_not]; unfold Mi at h; omega
theorem aFL {p : Int → Bool} (hp : ∀ x, Mi x → p x.kind = false) {l k : List Ev} (hk : ∀ x ∈ k, Mi x) {t : Int} : awW p (l ++ k) t = awW p l t := by
  rw [aDL, aA9 fun x hx _ => hp x (hk x hx), Nat.add_zero]
theorem axo (h1 : ∀ t, Stt c e' t = Stt c e t) (h2 : ∀ t, Jo c e' t = Jo c e t) (h3 : e'.gt 0 = e.gt 0) (h4 : e'.recs = e.recs) (h5 : ∃ l, e'.evs = e.evs ++ l ∧ ∀ x ∈ l, Mi x) (ts : Int → Ts) (vs : Nat → Vw) : azi c e' ts vs = azi c e ts vs := by
  obtain ⟨l, hl, hm⟩ := h5
  have e1 : Stt c e' = Stt c e := funext h1
  have e2 : Jo c e' = Jo c e := funext h2
  have e3 : rcw e' = rcw e := funext fun t => by unfold rcw EnvP.rc; rw [h4]
  have e4 : rcs e' = rcs e := funext fun t => by unfold rcs EnvP.rc; rw [h4]
  have e5 : ∀ {q : Int → Bool}, (∀ x, Mi x → q x.kind = false) → awW q e'.evs = awW q e.evs := fun {q} hq => funext fun t => by rw [hl, aFL hq hm]
  unfold azi
  rw [e1, e2, h3, e3, e4, e5 fun x => aGu, e5 fun x => aGt, e5 fun x => aGv]
theorem Qs.mi (h : Qs c e e') : ∃ l, e'.evs = e.evs ++ l ∧ ∀ x ∈ l, Mi x := by
  obtain ⟨l, hl, hm⟩ := h.ev
  exact ⟨l, hl, fun x hx => by have := hm x hx; unfold Mi; omega⟩
theorem aDR {ts : Int → Ts} {vs : Nat → Vw} {m : Nat} {w : Vw} : azi c e ts (aoz vs m w) = { azi c e ts vs with hd := aoz (fun m => (vs m).1) m w.1, ph := aoz (fun m => (vs m).2) m w.2 } := by
  unfold azi
  congr 1
  · funext j; unfold aoz; split <;> rfl
  · funext j; unfold aoz; split <;> rfl
theorem aB4 {l : List Int} {p : Ph} (hl : ∀ x ∈ l, x ∈ v.1) (hn : v.1.Nodup → l.Nodup) (hf : ∀ x, v.2 = .f x → p = .f x)
    (H : ∀ (a : Ab) (m : Nat), LA a → a.T = c.tasks → a.J = Jo c e → a.wa = rcw e → a.hd m = v.1 → a.ph m = v.2 → a.phOk m l p) : Lw c e e v (l, p) := fun m vs hv h => by
  obtain ⟨rl, ts, la⟩ := h
  have e1 : (azi c e ts vs).hd m = v.1 := by show (vs m).1 = _; rw [hv]
  have e2 : (azi c e ts vs).ph m = v.2 := by show (vs m).2 = _; rw [hv]
  refine ⟨rl, ts, ?_⟩
  rw [aDR]
  exact la.step (fun x hx => by rw [e1]; exact hl x hx) (hn (by rw [← e1]; exact la.nd m)) (fun x hx => hf x (by rw [← e2]; exact hx)) (H _ m la rfl rfl rfl e1 e2)
theorem Lw.env {e0 : EnvP} (h : ∀ ts vs, azi c e' ts vs = azi c e ts vs) (hr : e'.recs.length = e.recs.length) (hv : Lw c e0 e v v') : Lw c e0 e' v v' := fun m vs hm hl => by
  obtain ⟨rl, ts, la⟩ := hv m vs hm hl
  exact ⟨by rw [hr]; exact rl, ts, by rw [h]; exact la⟩
theorem Lw.refl : Lw c e e v v := fun m vs hv h => by rw [aw3 hv]; exact h
theorem Lw.q (h : Qs c e e') (hv : Lw c e e v v') : Lw c e e' v v' := hv.env (axo h.st h.jo h.nx h.rc h.mi) (by rw [h.rc])
theorem Lw.em {e0 : EnvP} {k w t o x : Int} (hk : k ≠ 1 ∧ k ≠ 3 ∧ k ≠ 5 ∧ k ≠ 10) (hv : Lw c e0 e v v') : Lw c e0 (e.em k w t o x) v v' :=
  Lw.env (e := e) (e' := e.em k w t o x) (axo (fun _ => rfl) (fun _ => rfl) rfl rfl ⟨[⟨k, w, t, o, x⟩], rfl, fun y hy => by rw [List.mem_singleton.1 hy]; exact hk⟩) rfl hv
theorem Lw.drop {l : List Int} (hl : ∀ x ∈ l, x ∈ v.1) (hn : v.1.Nodup → l.Nodup) (hf : ∀ x, v.2 ≠ .f x) : Lw c e e v (l, .n) :=
  aB4 hl hn (fun x h => absurd h (hf x)) fun a m la hT hJ hw hh hp => trivial
end
section
variable {c : Cfg} {e e1 e' : EnvP} {v v1 v' : Vw} {t u k x : Int}
theorem Of1.em {w o y : Int} (h : Of1 c e e' t) (hk : u = t ∨ (k ≠ 1 ∧ k ≠ 3 ∧ k ≠ 5 ∧ k ≠ 10)) : Of1 c e (e'.em k w u o y) t := by
  obtain ⟨m, hm, hp⟩ := h.ev
  refine ⟨h.st, h.jo, h.nx, h.rl, h.rc, m ++ [⟨k, w, u, o, y⟩], by show e'.evs ++ [_] = _; rw [hm, List.append_assoc], fun x hx => ?_⟩
  rcases List.mem_append.1 hx with hx | hx
  · exact hp x hx
  · rw [List.mem_singleton.1 hx]; exact hk
theorem aEH {r : RecP} (ht : 0 ≤ t) (hx : x ≠ t) (h0 : 0 ≤ x) : (e.pr t r).rc x = e.rc x := by
  show atL _ (e.recs.set t.toNat r) x = atL _ e.recs x
  unfold atL
  rw [List.getElem?_set_ne (by omega)]
theorem Of1.pr {r : RecP} (h : Of1 c e e' t) (ht : TOk c t) : Of1 c e (e'.pr t r) t :=
  ⟨h.st, h.jo, h.nx, by show (e'.recs.set _ _).length = _; rw [List.length_set]; exact h.rl, fun x hx h0 => by rw [aEH ht.1 hx h0]; exact h.rc x hx h0, h.ev⟩
theorem Of1.wt (h : Of1 c e e' t) (hd : DecOk c) : Of1 c e (e'.pt k (af2 (aaI c) u) x) t :=
  ⟨fun y hy => by rw [show Stt c (e'.pt k (af2 (aaI c) u) x) y = Stt c e' y from ath hd (f := 0) (by omega) (by omega) (by omega)]; exact h.st y hy,
   fun y => by rw [show Jo c (e'.pt k (af2 (aaI c) u) x) y = Jo c e' y from ath hd (f := 2) (by omega) (by omega) (by omega)]; exact h.jo y,
   by rw [show (e'.pt k (af2 (aaI c) u) x).gt 0 = e'.gt 0 from aBE hd (by omega) (by omega)]; exact h.nx, h.rl, h.rc, h.ev⟩
section
variable {l : List Int}
end
end
def vwR (r : RunS) : Vw := match r.c with
  | .next => (r.stack, .n)
  | .s2 _ => (r.stack, .p r.id)
  | .s3 _ => (r.stack, .n)
  | .s4 _ => (r.stack, .n)
  | .s5 => (r.stack, .n)
  | .j2 => (r.stack, .j (aaJ r.stack) r.child)
  | .j3 => (r.stack.dropLast, .b (aaJ r.stack) r.child)
  | .j4 => (r.stack.dropLast, .n)
  | .j5 _ => (r.stack.dropLast, .n)
  | .j6 => (r.stack.dropLast, .r (aaJ r.stack))
  | .j7 => (r.stack, .n)
  | .f2 => (r.stack.dropLast, .f (aaJ r.stack))
  | .f3 => (r.stack.dropLast, .g (aaJ r.stack))
  | .f4 .l1 => (r.stack.dropLast, .h (aaJ r.stack) r.waiter)
  | .f4 .l2 => (r.stack.dropLast, .h (aaJ r.stack) r.waiter)
  | .f4 .l3 => (r.stack.dropLast, .n)
  | .f4 (.l4 _ _) => (r.stack.dropLast, .n)
  | .f5 _ _ => (r.stack.dropLast, .n)
  | .f6 => (r.stack.dropLast, .n)
def vwO : Rs RunS → Vw
  | .go r => vwR r
  | .fin _ _ => ([], .n)
section
variable {c : Cfg} {e e' : EnvP} {w : Int} {v : Vw}
def aGe (c : Cfg) (e : EnvP) (v : Vw) (o : Rs RunS × EnvP) : Prop := Lw c e o.2 v (vwO o.1) ∧ o.1.Q (fun r => r.stack ≠ []) fun _ _ => True
theorem aGe.ite {P : Prop} [Decidable P] {a b : Rs RunS × EnvP} (h1 : P → aGe c e v a) (h2 : ¬ P → aGe c e v b) : aGe c e v (if P then a else b) := by
  split
  · exact h1 ‹_›
  · exact h2 ‹_›
def vwW (k : WorkS) : Vw := match k.c with
  | .t7 s => vwR s
  | _ => ([], .n)
def aFS (k : WorkS) : Prop := match k.c with
  | .t7 s => s.stack ≠ []
  | _ => True
def atG (c : Cfg) (e : EnvP) (v : Vw) (o : WorkS × EnvP) : Prop := Lw c e o.2 v (vwW o.1) ∧ aFS o.1
theorem atG.ite {P : Prop} [Decidable P] {a b : WorkS × EnvP} (h1 : P → atG c e v a) (h2 : ¬ P → atG c e v b) : atG c e v (if P then a else b) := by
  split
  · exact h1 ‹_›
  · exact h2 ‹_›
theorem atG.ite1 {P : Prop} [Decidable P] {a b : WorkS} {e' : EnvP} (h1 : P → atG c e v (a, e')) (h2 : ¬ P → atG c e v (b, e')) : atG c e v (if P then a else b, e') := by
  split
  · exact h1 ‹_›
  · exact h2 ‹_›
end
section
variable {c : Cfg} {N : Nat} {e e' : EnvP} {vs : Nat → Vw} {w : WorkerV MV} {l : ClientV MV} {v : Vw}
theorem Rz.nx (h : Rz c e e') : e'.gt 0 = e.gt 0 := by
  rcases h with h | ⟨t, v, h⟩
  · exact h.nx
  · exact h.nx
theorem Rz.evs (h : Rz c e e') : ∃ l, e'.evs = e.evs ++ l := by
  rcases h with h | ⟨t, v, h⟩
  · obtain ⟨l, hl, _⟩ := h.ev; exact ⟨l, hl⟩
  · obtain ⟨k, w, o, l, _, hl, _⟩ := h.ev; exact ⟨_, hl⟩
theorem Tr.nx {p q : amp} (h : Tr c e e' p q) (h0 : 0 ≤ e.gt 0 ∧ e.gt 0 ≤ 1000000) : e'.gt 0 ≤ e.gt 0 + 1 := by
  have al : ∀ {e' : EnvP}, Al c e e' → e'.gt 0 ≤ e.gt 0 + 1 := fun h => by
    rcases h.nx with k | k
    · rw [k, aiz (by omega)]; omega
    · omega
  cases h with
  | same _ h => rw [h.nx]; omega
  | drop _ h => rw [h.nx]; omega
  | al h => exact al h
  | al1 _ h => exact al h.a
  | w0 _ _ h => rw [h.nx]; omega
  | an _ _ h => rw [h.nx]; omega
theorem Tr.evs {p q : amp} (h : Tr c e e' p q) : ∃ l, e'.evs = e.evs ++ l := by
  cases h with
  | same _ h => exact h.evs
  | drop _ h => exact h.evs
  | al h => obtain ⟨l, hl, _⟩ := h.ev; exact ⟨l, hl⟩
  | al1 _ h => obtain ⟨l, hl, _⟩ := h.a.ev; exact ⟨l, hl⟩
  | w0 _ _ h => exact ⟨[], by rw [h.ev]; simp⟩
  | an _ _ h => obtain ⟨l, k, w, o, _, _, hl⟩ := h.ev; exact ⟨_, by rw [hl, List.append_assoc]⟩
structure DL (c : Cfg) (N : Nat) (e : EnvP) (vs : Nat → Vw) : Prop where
  ei : EI c (1 + 3 * N) e
  m : MI c e
  n : (e.m.cells.length : Int) = abA c
  nx : e.gt 0 ≤ N
  li : LI c e vs
def WL (c : Cfg) (N : Nat) (j : Int) (w : WorkerV MV) (v : Vw) : Prop := ∃ k, w = ahW (aaI c) j k ∧ ahT (1 + 3 * N) (mnC c) k ∧ awS c k ∧ aFS k ∧ vwW k = v
theorem WL.next {j : Int} (hw : WL c N j w v) : WL c (N + 1) j w v := by
  obtain ⟨k, h1, h2, h3⟩ := hw
  exact ⟨k, h1, h2.up (by omega), h3⟩
theorem DL.next (h : DL c N e vs) : DL c (N + 1) e vs := ⟨h.ei.up (by omega), h.m, h.n, by have := h.nx; omega, h.li⟩
theorem DL.clk {k : ClkV} (h : DL c N e vs) : DL c N { e with k := k } vs := by
  obtain ⟨rl, ts, la⟩ := h.li
  exact ⟨h.ei.clk, h.m.ex, h.n, h.nx, rl, ts, la⟩
theorem DL.stp (h : DL c N e vs) (hN : N ≤ 100000) (s : Stp 2 e e') {p q : amp} (t : Tr c e e' p q) {m : Nat} {v' : Vw} (x : Lw c e e' (vs m) v') : DL c (N + 1) e' (aoz vs m v') := by
  have s1 := h.ei.stp (by omega) s
  have en : 1 + 3 * N + 3 = 1 + 3 * (N + 1) := by omega
  rw [en] at s1
  have h0 := h.m.p 0
  have h1 := h.nx
  have h2 := t.nx ⟨h0, by omega⟩
  exact ⟨s1, t.i, by rw [(ax4 s.m h.ei.ct (by omega)).2]; exact h.n, by omega, x m vs rfl h.li⟩
theorem ayW (h : DecOk c) : ((aqA c).m.cells.length : Int) = abA c := by
  show ((List.replicate (abA c).toNat (0 : Int)).length : Int) = _
  have := af3 h
  have h4 := h.h
  have h5 := h.t
  rw [List.length_replicate]
  have : 0 ≤ abA c := by unfold abA; omega
  omega
structure EngI (c : Cfg) (I : Nat → EnvP → List (WorkerV MV) → ClientV MV → Prop) : Prop where
  w : ∀ {N : Nat} {e : EnvP} {ws : List (WorkerV MV)} {cl : ClientV MV} {j : Nat} {w : WorkerV MV}, I N e ws cl → N ≤ 100000 → ws[j]? = some w → aaK (aaj w e) fun o => I (N + 1) o.2.2.1 (ws.set j o.2.1) cl ∧ ∃ l, o.2.2.1.evs = e.evs ++ l
  c : ∀ {N : Nat} {e : EnvP} {ws : List (WorkerV MV)} {cl : ClientV MV}, I N e ws cl → N ≤ 100000 → aaK (aas cl e) fun o => I (N + 1) o.2.2.1 ws o.2.1 ∧ ∃ l, o.2.2.1.evs = e.evs ++ l
  n : ∀ {N : Nat} {e : EnvP} {ws : List (WorkerV MV)} {cl : ClientV MV}, I N e ws cl → I (N + 1) e ws cl
  k : ∀ {N : Nat} {e : EnvP} {ws : List (WorkerV MV)} {cl : ClientV MV} {k : ClkV}, I N e ws cl → I N { e with k := k } ws cl
  ev : ∀ {N : Nat} {e : EnvP} {ws : List (WorkerV MV)} {cl : ClientV MV}, I N e ws cl → e.evs.length ≤ 1 + 3 * N
theorem aBG {α : Type} {ws : List α} {j : Nat} {w : α} (h : ws[j]? = some w) : j < ws.length := by
  rcases Nat.lt_or_ge j ws.length with k | k
  · exact k
  · rw [List.getElem?_eq_none k] at h; cases h
end
noncomputable def aoe (b : List Int) : Option ((List EntV × Unit) × (Unit)) :=
 (lpF (σ := List EntV × Int × Unit) (β := List EntV × Int × Unit) (fun self3 x1 =>
  if (wi (x1.2.1 + 1)) < ((b.length : Nat) : Int) then
   if ((x1.1.length : Nat) : Int) < 65536 then
   if 0 ≤ x1.2.1 ∧ x1.2.1 < ((b.length : Nat) : Int) then
   if 0 ≤ wi (x1.2.1 + 1) ∧ wi (x1.2.1 + 1) < ((b.length : Nat) : Int) then
   if (aiW b (wi (x1.2.1 + 1))) = (aiW b (wi (x1.2.1 + 1))) then
   if (aiW b x1.2.1) = (aiW b x1.2.1) then
   if (Int.tmod (wi (aiW b x1.2.1)) 4) = 1 then
   if (((x1.1.length + ([(⟨(Int.tmod (wi (aiW b x1.2.1)) 4), 0⟩ : EntV)] : List EntV).length : Nat)) : Int) < 1000000000000 then
   self3 (x1.1 ++ ([(⟨(Int.tmod (wi (aiW b x1.2.1)) 4), 0⟩ : EntV)]), wi (x1.2.1 + 2), ())
   else none
   else
   if (Int.tmod (wi (aiW b x1.2.1)) 4) = 3 then
   if (((x1.1.length + ([(⟨(Int.tmod (wi (aiW b x1.2.1)) 4), 0⟩ : EntV)] : List EntV).length : Nat)) : Int) < 1000000000000 then
   self3 (x1.1 ++ ([(⟨(Int.tmod (wi (aiW b x1.2.1)) 4), 0⟩ : EntV)]), wi (x1.2.1 + 2), ())
   else none
   else
   if (((x1.1.length + ([(⟨(Int.tmod (wi (aiW b x1.2.1)) 4), wi (aiW b (wi (x1.2.1 + 1)))⟩ : EntV)] : List EntV).length : Nat)) : Int) < 1000000000000 then
   self3 (x1.1 ++ ([(⟨(Int.tmod (wi (aiW b x1.2.1)) 4), wi (aiW b (wi (x1.2.1 + 1)))⟩ : EntV)]), wi (x1.2.1 + 2), ())
   else none
   else none
   else none
   else none
   else none
   else
   some (x1.1, x1.2.1, ())
  else
  some (x1.1, x1.2.1, ())
 ) 18446744073709551616 ([], 0, ())).bind fun z2 =>
 some ((z2.1, ()), (()))
noncomputable abbrev aqk : Con SR1 := ⟨28, [.sh (.ro 17)], [.sh (.row 5)], fun x => aoe x.1⟩
theorem at2 : CO Tryz.prog aqk := aai aah Tryz.func28 [] trivial [] trivial (fun _ => []) [(3, .loop [.rg 3 (.row 5), .rg 4 sI_] 18446744073709551616 0)] fun x => by kernel_rfl
noncomputable def akW (b : List Int) (n : Int) : Option ((List EntV × Unit) × (Unit)) :=
 (aoe b).bind fun r1 =>
 if n < ((r1.1.1.length : Nat) : Int) then
  if 0 ≤ n ∧ n ≤ ((r1.1.1.length : Nat) : Int) then
   some ((r1.1.1.take (n : Int).toNat, ()), (()))
  else none
 else
 some ((r1.1.1, ()), (()))
noncomputable abbrev ajs : Con SR1 := ⟨8, [.sh (.ro 17), .sh sI_], [.sh (.row 5)], fun x => akW x.1 x.2.1⟩
theorem aj4 : CO Tryz.prog ajs := aai aah Tryz.func8 [aqk] ⟨at2, trivial⟩ [] trivial (fun _ => []) [] fun x => by kernel_rfl
noncomputable def ac1 (y0 : Int) : Option ((EntV × Unit) × (Unit)) :=
 some (((⟨0, y0⟩ : EntV), ()), (()))
noncomputable abbrev aei : Con SR1 := ⟨29, [.sh sI_], [.val 5], fun x => ac1 x.1⟩
theorem afZ : CO Tryz.prog aei := aai aah Tryz.func29 [] trivial [] trivial (fun _ => []) [] fun x => by kernel_rfl
noncomputable def abl (y0 : Cfg) : Option ((List EntV × Unit) × (Unit)) :=
 (lpF (σ := List EntV × Int × Unit) (β := List EntV × Int × Unit) (fun self3 x1 =>
  if x1.2.1 < (wi (40 * ((y0.subs.length : Nat) : Int))) then
   (ac1 y0.workers).bind fun r4 =>
   if (((x1.1.length + ([r4.1.1] : List EntV).length : Nat)) : Int) < 1000000000000 then
   self3 (x1.1 ++ ([r4.1.1]), wi (x1.2.1 + 1), ())
   else none
  else
  some (x1.1, x1.2.1, ())
 ) 18446744073709551616 ([], 0, ())).bind fun z2 =>
 some ((z2.1, ()), (()))
noncomputable abbrev abU : Con SR1 := ⟨9, [.val 13], [.sh (.row 5)], fun x => abl x.1⟩
theorem acB : CO Tryz.prog abU := aai aah Tryz.func9 [aei] ⟨afZ, trivial⟩ [] trivial (fun _ => []) [(3, .loop [.rg 3 (.row 5), .rg 4 sI_] 18446744073709551616 0)] fun x => by kernel_rfl
noncomputable def adw (y0 : Int) (y1 : Int) : Option ((Int × Unit) × (Unit)) :=
 if y1 < 1 then
  some ((0, ()), (()))
 else
 if y1 ≠ 0 then
  if (Int.tmod y0 y1) < 0 then
   if y1 ≠ 0 then
   some ((wi ((Int.tmod y0 y1) + y1), ()), (()))
   else none
  else
  if y1 ≠ 0 then
   some (((Int.tmod y0 y1), ()), (()))
  else none
 else none
noncomputable abbrev afX : Con SR1 := ⟨60, [.sh sI_, .sh sI_], [.sh sI_], fun x => adw x.1 x.2.1⟩
theorem ai1 : CO Tryz.prog afX := aai aah Tryz.func60 [] trivial [] trivial (fun _ => []) [] fun x => by kernel_rfl
noncomputable def aaO (y0 : List Int) (y1 : Int) (y2 : Int) : Option ((Int × Unit) × (Unit)) :=
 if ((y0.length : Nat) : Int) = 0 then
  some ((0, ()), (()))
 else
 if ((y0.length : Nat) : Int) ≠ 0 then
  if 0 ≤ (Int.tmod y1 ((y0.length : Nat) : Int)) ∧ (Int.tmod y1 ((y0.length : Nat) : Int)) < ((y0.length : Nat) : Int) then
   if ((y0.length : Nat) : Int) ≠ 0 then
   if (wi (1 + (Int.tmod (wi (Int.tdiv y1 ((y0.length : Nat) : Int))) 7))) ≠ 0 then
   (adw (wi (Int.tdiv (afP y0 (Int.tmod y1 ((y0.length : Nat) : Int))) (wi (1 + (Int.tmod (wi (Int.tdiv y1 ((y0.length : Nat) : Int))) 7))))) y2).bind fun r1 =>
   some ((r1.1.1, ()), (()))
   else none
   else none
  else none
 else none
noncomputable abbrev afv : Con SR1 := ⟨31, [.sh (.ro 1), .sh sI_, .sh sI_], [.sh sI_], fun x => aaO x.1 x.2.1 x.2.2.1⟩
theorem aiP : CO Tryz.prog afv := aai aah Tryz.func31 [afX] ⟨ai1, trivial⟩ [] trivial (fun _ => []) [] fun x => by kernel_rfl
noncomputable def abI (y0 : List EntV) (y1 : EntV) (y2 : Int) : Option ((List EntV × Unit) × (Unit)) :=
 if 0 ≤ y2 ∧ y2 ≤ ((y0.length : Nat) : Int) then
  if (((([] : List EntV).length + (y0.take (y2 : Int).toNat).length : Nat)) : Int) < 1000000000000 then
   if ((((([]) ++ (y0.take (y2 : Int).toNat)).length + ([y1] : List EntV).length : Nat)) : Int) < 1000000000000 then
   if 0 ≤ y2 ∧ y2 ≤ ((y0.length : Nat) : Int) then
   if (((((([]) ++ (y0.take (y2 : Int).toNat)) ++ ([y1])).length + (y0.drop (y2 : Int).toNat).length : Nat)) : Int) < 1000000000000 then
   some ((((([]) ++ (y0.take (y2 : Int).toNat)) ++ ([y1])) ++ (y0.drop (y2 : Int).toNat), ()), (()))
   else none
   else none
   else none
  else none
 else none
noncomputable abbrev afw : Con SR1 := ⟨30, [.sh (.ro 5), .val 5, .sh sI_], [.sh (.row 5)], fun x => abI x.1 x.2.1 x.2.2.1⟩
theorem aiQ : CO Tryz.prog afw := aai aah Tryz.func30 [] trivial [] trivial (fun _ => []) [] fun x => by kernel_rfl
noncomputable def adx (y0 : List Int) (y1 : Int) (y2 : Int) : Option ((List EntV × Unit) × (Unit)) :=
 (lpF (σ := List EntV × Int × Unit) (β := List EntV × Int × Unit) (fun self3 x1 =>
  if x1.2.1 < y2 then
   (ac1 x1.2.1).bind fun r4 =>
   (aaO y0 (wi (y1 + x1.2.1)) (wi (x1.2.1 + 1))).bind fun r5 =>
   (abI x1.1 r4.1.1 r5.1.1).bind fun r6 =>
   self3 (r6.1.1, wi (x1.2.1 + 1), ())
  else
  some (x1.1, x1.2.1, ())
 ) 18446744073709551616 ([], 0, ())).bind fun z2 =>
 (aaO y0 (wi (y1 + y2)) (wi (y2 + 1))).bind fun r7 =>
 (abI z2.1 (⟨1, 0⟩ : EntV) r7.1.1).bind fun r8 =>
 (aaO y0 (wi ((wi (y1 + y2)) + 1)) 3).bind fun r9 =>
 (lpF (σ := List EntV × Int × Unit) (β := List EntV × Int × Unit) (fun self12 x10 =>
  if 0 < x10.2.1 then
   (aaO y0 (wi ((wi (y1 + y2)) + x10.2.1)) y2).bind fun r13 =>
   (ac1 r13.1.1).bind fun r14 =>
   (aaO y0 (wi (y1 + x10.2.1)) (wi (((x10.1.length : Nat) : Int) + 1))).bind fun r15 =>
   (abI x10.1 r14.1.1 r15.1.1).bind fun r16 =>
   self12 (r16.1.1, wi (x10.2.1 - 1), ())
  else
  some (x10.1, x10.2.1, ())
 ) 18446744073709551616 (r8.1.1, r9.1.1, ())).bind fun z11 =>
 some ((z11.1, ()), (()))
noncomputable abbrev ab7 : Con SR1 := ⟨10, [.sh (.ro 1), .sh sI_, .sh sI_], [.sh (.row 5)], fun x => adx x.1 x.2.1 x.2.2.1⟩
theorem acF : CO Tryz.prog ab7 := aai aah Tryz.func10 [aei, afv, afw] ⟨afZ, aiP, aiQ, trivial⟩ [] trivial (fun _ => []) [(3, .loop [.rg 7 (.row 5), .rg 8 sI_] 18446744073709551616 0), (8, .loop [.rg 7 (.row 5), .rg 9 sI_] 18446744073709551616 2)] fun x => by kernel_rfl
noncomputable def acX (y0 : Cfg) : Option ((Int × Unit) × (Unit)) :=
 some ((wi ((wi ((wi (4 + y0.heap)) + y0.classes)) + (wi (2 * y0.workers))), ()), (()))
noncomputable abbrev ae3 : Con SR1 := ⟨47, [.val 13], [.sh sI_], fun x => acX x.1⟩
theorem ahV : CO Tryz.prog ae3 := aai aah Tryz.func47 [] trivial [] trivial (fun _ => []) [] fun x => by kernel_rfl
noncomputable def akZ (y0 : List St) : Option ((List Ev × Unit) × (Unit)) :=
 (lpF (σ := List Ev × Int × Unit) (β := List Ev × Int × Unit) (fun self3 x1 =>
  if x1.2.1 < ((y0.length : Nat) : Int) then
   if 0 ≤ x1.2.1 ∧ x1.2.1 < ((y0.length : Nat) : Int) then
   if (((x1.1.length + ([(⟨(awX y0 x1.2.1).ev.kind, (awX y0 x1.2.1).ev.worker, (awX y0 x1.2.1).ev.task, (awX y0 x1.2.1).ev.other, (awX y0 x1.2.1).ev.level⟩ : Ev)] : List Ev).length : Nat)) : Int) < 1000000000000 then
   self3 (x1.1 ++ ([(⟨(awX y0 x1.2.1).ev.kind, (awX y0 x1.2.1).ev.worker, (awX y0 x1.2.1).ev.task, (awX y0 x1.2.1).ev.other, (awX y0 x1.2.1).ev.level⟩ : Ev)]), wi (x1.2.1 + 1), ())
   else none
   else none
  else
  some (x1.1, x1.2.1, ())
 ) 18446744073709551616 ([], 0, ())).bind fun z2 =>
 some ((z2.1, ()), (()))
noncomputable abbrev ajA : Con SR1 := ⟨13, [.sh (.ro 6)], [.sh (.row 2)], fun x => akZ x.1⟩
theorem akb : CO Tryz.prog ajA := aai aah Tryz.func13 [] trivial [] trivial (fun _ => []) [(3, .loop [.rg 3 (.row 2), .rg 8 sI_] 18446744073709551616 0)] fun x => by kernel_rfl
noncomputable def ac9 (y0 : List Ev) : Option ((Int × Unit) × (Unit)) :=
 (lpF (σ := Int × Int × Unit) (β := Int × Int × Unit) (fun self3 x1 =>
  if x1.2.1 < ((y0.length : Nat) : Int) then
   if 0 ≤ x1.2.1 ∧ x1.2.1 < ((y0.length : Nat) : Int) then
   if ((aaS y0 x1.2.1).kind) ≠ 1 then
   if 0 ≤ x1.2.1 ∧ x1.2.1 < ((y0.length : Nat) : Int) then
   if ((aaS y0 x1.2.1).kind) ≠ 3 then
   self3 (x1.1, wi (x1.2.1 + 1), ())
   else
   (lpF (σ := Bool × Int × Unit) (β := Bool × Int × Unit) (fun self6 x4 =>
   if x4.2.1 < x1.2.1 then
   if x4.1 = true then
   if 0 ≤ x4.2.1 ∧ x4.2.1 < ((y0.length : Nat) : Int) then
   if ((aaS y0 x4.2.1).kind) ≠ 1 then
   if 0 ≤ x4.2.1 ∧ x4.2.1 < ((y0.length : Nat) : Int) then
   if ((aaS y0 x4.2.1).kind) ≠ 3 then
   self6 (true, wi (x4.2.1 + 1), ())
   else
   if 0 ≤ x4.2.1 ∧ x4.2.1 < ((y0.length : Nat) : Int) then
   if 0 ≤ x1.2.1 ∧ x1.2.1 < ((y0.length : Nat) : Int) then
   self6 (decide (((aaS y0 x4.2.1).task) ≠ ((aaS y0 x1.2.1).task)), wi (x4.2.1 + 1), ())
   else none
   else none
   else none
   else
   if 0 ≤ x4.2.1 ∧ x4.2.1 < ((y0.length : Nat) : Int) then
   if 0 ≤ x1.2.1 ∧ x1.2.1 < ((y0.length : Nat) : Int) then
   self6 (decide (((aaS y0 x4.2.1).task) ≠ ((aaS y0 x1.2.1).task)), wi (x4.2.1 + 1), ())
   else none
   else none
   else none
   else
   self6 (false, wi (x4.2.1 + 1), ())
   else
   some (x4.1, x4.2.1, ())
   ) 18446744073709551616 (true, 0, ())).bind fun z5 =>
   if z5.1 = true then
   self3 (wi (x1.1 + 1), wi (x1.2.1 + 1), ())
   else
   self3 (x1.1, wi (x1.2.1 + 1), ())
   else none
   else
   (lpF (σ := Bool × Int × Unit) (β := Bool × Int × Unit) (fun self9 x7 =>
   if x7.2.1 < x1.2.1 then
   if x7.1 = true then
   if 0 ≤ x7.2.1 ∧ x7.2.1 < ((y0.length : Nat) : Int) then
   if ((aaS y0 x7.2.1).kind) ≠ 1 then
   if 0 ≤ x7.2.1 ∧ x7.2.1 < ((y0.length : Nat) : Int) then
   if ((aaS y0 x7.2.1).kind) ≠ 3 then
   self9 (true, wi (x7.2.1 + 1), ())
   else
   if 0 ≤ x7.2.1 ∧ x7.2.1 < ((y0.length : Nat) : Int) then
   if 0 ≤ x1.2.1 ∧ x1.2.1 < ((y0.length : Nat) : Int) then
   self9 (decide (((aaS y0 x7.2.1).task) ≠ ((aaS y0 x1.2.1).task)), wi (x7.2.1 + 1), ())
   else none
   else none
   else none
   else
   if 0 ≤ x7.2.1 ∧ x7.2.1 < ((y0.length : Nat) : Int) then
   if 0 ≤ x1.2.1 ∧ x1.2.1 < ((y0.length : Nat) : Int) then
   self9 (decide (((aaS y0 x7.2.1).task) ≠ ((aaS y0 x1.2.1).task)), wi (x7.2.1 + 1), ())
   else none
   else none
   else none
   else
   self9 (false, wi (x7.2.1 + 1), ())
   else
   some (x7.1, x7.2.1, ())
   ) 18446744073709551616 (true, 0, ())).bind fun z8 =>
   if z8.1 = true then
   self3 (wi (x1.1 + 1), wi (x1.2.1 + 1), ())
   else
   self3 (x1.1, wi (x1.2.1 + 1), ())
   else none
  else
  some (x1.1, x1.2.1, ())
 ) 18446744073709551616 (0, 0, ())).bind fun z2 =>
 some ((z2.1, ()), (()))
noncomputable abbrev abR : Con SR1 := ⟨21, [.sh (.ro 2)], [.sh sI_], fun x => ac9 x.1⟩
theorem acy : CO Tryz.prog abR := aai aah Tryz.func21 [] trivial [] trivial (fun _ => []) [(3, .loop [.rg 3 sI_, .rg 4 sI_] 18446744073709551616 0), (8, .loop [.rg 5 .b, .rg 6 sI_] 18446744073709551616 2)] fun x => by kernel_rfl
noncomputable def agM (y0 : Cfg) : Option ((InhV × Unit) × (Unit)) :=
 if y0.tasks = y0.tasks then
  if 0 ≤ y0.tasks ∧ y0.tasks ≤ 1099511627776 then
   (lpF (σ := Int × InhV × Unit) (β := Int × InhV × Unit) (fun self3 x1 =>
   if x1.1 < y0.tasks then
   if (((x1.2.1.levels.length + ([(-1)] : List Int).length : Nat)) : Int) < 1000000000000 then
   self3 (wi (x1.1 + 1), ({ x1.2.1 with levels := x1.2.1.levels ++ ([(-1)]) } : InhV), ())
   else none
   else
   some (x1.1, x1.2.1, ())
   ) 18446744073709551616 (0, (⟨[], List.replicate (y0.tasks : Int).toNat false, (mp0 : Int → Option WaitV)⟩ : InhV), ())).bind fun z2 =>
   some ((z2.2.1, ()), (()))
  else none
 else none
noncomputable abbrev afh : Con SR1 := ⟨40, [.val 13], [.sh (.own 66)], fun x => agM x.1⟩
theorem ag1 : CO Tryz.prog afh := aai aah Tryz.func40 [] trivial [] trivial (fun _ => []) [(3, .loop [.rg 12 sI_, .rg 3 (.own 66)] 18446744073709551616 0)] fun x => by kernel_rfl
noncomputable def afg (y0 : InhV) (y1 : Ev) : Option ((Bool × Unit) × (InhV × Unit)) :=
 if y1.task < 0 then
  some ((true, ()), (y0, ()))
 else
 if ((y0.levels.length : Nat) : Int) ≤ y1.task then
  some ((true, ()), (y0, ()))
 else
 if y1.kind = 11 then
  if y1.kind = 11 then
   ((
   if 0 ≤ y1.task ∧ y1.task < ((y0.levels.length : Nat) : Int) then
   if (afP y0.levels y1.task) ≠ (-1) then
   if 0 ≤ y1.task ∧ y1.task < ((y0.levels.length : Nat) : Int) then
   some (decide ((afP y0.levels y1.task) < y1.level), (y0.finished, y0.waits, ()), ())
   else none
   else
   some (false, (y0.finished, y0.waits, ()), ())
   else none
   ) : Option (Bool × (List Bool × (Int → Option WaitV) × Unit) × Unit)).bind fun z1 =>
   if 0 ≤ y1.task ∧ y1.task < ((y0.levels.length : Nat) : Int) then
   some ((z1.1, ()), ((⟨y0.levels.set y1.task.toNat y1.level, z1.2.1.1, z1.2.1.2.1⟩ : InhV), ()))
   else none
  else
  if y1.kind = 1 then
   if y1.kind = 1 then
   if 0 ≤ y1.task ∧ y1.task < ((y0.levels.length : Nat) : Int) then
   some ((true, ()), (({ y0 with levels := y0.levels.set y1.task.toNat y1.level } : InhV), ()))
   else none
   else
   if y1.kind = 6 then
   some ((true, ()), (({ y0 with waits := ap5 y0.waits y1.task (⟨y1.other, y1.worker, false, 0⟩ : WaitV) } : InhV), ()))
   else
   if y1.kind = 7 then
   if (y0.waits y1.task).isSome = true then
   if (!(((y0.waits y1.task).getD (⟨0, 0, false, 0⟩ : WaitV)).settled)) = true then
   if (((y0.waits y1.task).getD (⟨0, 0, false, 0⟩ : WaitV)).worker) = y1.worker then
   if y1.level = y1.level then
   some ((true, ()), (({ y0 with waits := ap5 y0.waits y1.task ({ (y0.waits y1.task).getD (⟨0, 0, false, 0⟩ : WaitV) with settled := true, level := y1.level } : WaitV) } : InhV), ()))
   else none
   else
   some ((true, ()), (y0, ()))
   else
   some ((true, ()), (y0, ()))
   else
   some ((true, ()), (y0, ()))
   else
   if y1.kind = 9 then
   some ((true, ()), (({ y0 with waits := aww y0.waits y1.task } : InhV), ()))
   else
   if y1.kind = 10 then
   if 0 ≤ y1.task ∧ y1.task < ((y0.finished.length : Nat) : Int) then
   some ((true, ()), (({ y0 with finished := y0.finished.set y1.task.toNat true } : InhV), ()))
   else none
   else
   some ((true, ()), (y0, ()))
  else
  if y1.kind = 3 then
   if 0 ≤ y1.task ∧ y1.task < ((y0.levels.length : Nat) : Int) then
   some ((true, ()), (({ y0 with levels := y0.levels.set y1.task.toNat y1.level } : InhV), ()))
   else none
  else
  if y1.kind = 6 then
   some ((true, ()), (({ y0 with waits := ap5 y0.waits y1.task (⟨y1.other, y1.worker, false, 0⟩ : WaitV) } : InhV), ()))
  else
  if y1.kind = 7 then
   if (y0.waits y1.task).isSome = true then
   if (!(((y0.waits y1.task).getD (⟨0, 0, false, 0⟩ : WaitV)).settled)) = true then
   if (((y0.waits y1.task).getD (⟨0, 0, false, 0⟩ : WaitV)).worker) = y1.worker then
   if y1.level = y1.level then
   some ((true, ()), (({ y0 with waits := ap5 y0.waits y1.task ({ (y0.waits y1.task).getD (⟨0, 0, false, 0⟩ : WaitV) with settled := true, level := y1.level } : WaitV) } : InhV), ()))
   else none
   else
   some ((true, ()), (y0, ()))
   else
   some ((true, ()), (y0, ()))
   else
   some ((true, ()), (y0, ()))
  else
  if y1.kind = 9 then
   some ((true, ()), (({ y0 with waits := aww y0.waits y1.task } : InhV), ()))
  else
  if y1.kind = 10 then
   if 0 ≤ y1.task ∧ y1.task < ((y0.finished.length : Nat) : Int) then
   some ((true, ()), (({ y0 with finished := y0.finished.set y1.task.toNat true } : InhV), ()))
   else none
  else
  some ((true, ()), (y0, ()))
 else
 if y1.kind = 12 then
  ((
   if 0 ≤ y1.task ∧ y1.task < ((y0.levels.length : Nat) : Int) then
   if (afP y0.levels y1.task) ≠ (-1) then
   if 0 ≤ y1.task ∧ y1.task < ((y0.levels.length : Nat) : Int) then
   some (decide ((afP y0.levels y1.task) < y1.level), (y0.finished, y0.waits, ()), ())
   else none
   else
   some (false, (y0.finished, y0.waits, ()), ())
   else none
  ) : Option (Bool × (List Bool × (Int → Option WaitV) × Unit) × Unit)).bind fun z2 =>
  if 0 ≤ y1.task ∧ y1.task < ((y0.levels.length : Nat) : Int) then
   some ((z2.1, ()), ((⟨y0.levels.set y1.task.toNat y1.level, z2.2.1.1, z2.2.1.2.1⟩ : InhV), ()))
  else none
 else
 if y1.kind = 1 then
  if y1.kind = 1 then
   if 0 ≤ y1.task ∧ y1.task < ((y0.levels.length : Nat) : Int) then
   some ((true, ()), (({ y0 with levels := y0.levels.set y1.task.toNat y1.level } : InhV), ()))
   else none
  else
  if y1.kind = 6 then
   some ((true, ()), (({ y0 with waits := ap5 y0.waits y1.task (⟨y1.other, y1.worker, false, 0⟩ : WaitV) } : InhV), ()))
  else
  if y1.kind = 7 then
   if (y0.waits y1.task).isSome = true then
   if (!(((y0.waits y1.task).getD (⟨0, 0, false, 0⟩ : WaitV)).settled)) = true then
   if (((y0.waits y1.task).getD (⟨0, 0, false, 0⟩ : WaitV)).worker) = y1.worker then
   if y1.level = y1.level then
   some ((true, ()), (({ y0 with waits := ap5 y0.waits y1.task ({ (y0.waits y1.task).getD (⟨0, 0, false, 0⟩ : WaitV) with settled := true, level := y1.level } : WaitV) } : InhV), ()))
   else none
   else
   some ((true, ()), (y0, ()))
   else
   some ((true, ()), (y0, ()))
   else
   some ((true, ()), (y0, ()))
  else
  if y1.kind = 9 then
   some ((true, ()), (({ y0 with waits := aww y0.waits y1.task } : InhV), ()))
  else
  if y1.kind = 10 then
   if 0 ≤ y1.task ∧ y1.task < ((y0.finished.length : Nat) : Int) then
   some ((true, ()), (({ y0 with finished := y0.finished.set y1.task.toNat true } : InhV), ()))
   else none
  else
  some ((true, ()), (y0, ()))
 else
 if y1.kind = 3 then
  if 0 ≤ y1.task ∧ y1.task < ((y0.levels.length : Nat) : Int) then
   some ((true, ()), (({ y0 with levels := y0.levels.set y1.task.toNat y1.level } : InhV), ()))
  else none
 else
 if y1.kind = 6 then
  some ((true, ()), (({ y0 with waits := ap5 y0.waits y1.task (⟨y1.other, y1.worker, false, 0⟩ : WaitV) } : InhV), ()))
 else
 if y1.kind = 7 then
  if (y0.waits y1.task).isSome = true then
   if (!(((y0.waits y1.task).getD (⟨0, 0, false, 0⟩ : WaitV)).settled)) = true then
   if (((y0.waits y1.task).getD (⟨0, 0, false, 0⟩ : WaitV)).worker) = y1.worker then
   if y1.level = y1.level then
   some ((true, ()), (({ y0 with waits := ap5 y0.waits y1.task ({ (y0.waits y1.task).getD (⟨0, 0, false, 0⟩ : WaitV) with settled := true, level := y1.level } : WaitV) } : InhV), ()))
   else none
   else
   some ((true, ()), (y0, ()))
   else
   some ((true, ()), (y0, ()))
  else
  some ((true, ()), (y0, ()))
 else
 if y1.kind = 9 then
  some ((true, ()), (({ y0 with waits := aww y0.waits y1.task } : InhV), ()))
 else
 if y1.kind = 10 then
  if 0 ≤ y1.task ∧ y1.task < ((y0.finished.length : Nat) : Int) then
   some ((true, ()), (({ y0 with finished := y0.finished.set y1.task.toNat true } : InhV), ()))
  else none
 else
 some ((true, ()), (y0, ()))
noncomputable abbrev aem : Con SR1 := ⟨41, [.ref 66, .val 2], [.sh .b], fun x => afg x.1 x.2.1⟩
theorem af7 : CO Tryz.prog aem := aai aah Tryz.func41 [] trivial [] trivial (fun _ => []) [(9, .cut [.rg 6 .b, .cx 0 [.inr (.sl 7), .inl (.row 64), .inl (.mp 65 true)]] [6, 7])] fun x => by kernel_rfl
noncomputable def af6 (z1 : List Int × List Bool × InhV × Unit) : Option ((List Int × Unit) × (InhV × Unit)) :=
 (lpF (σ := Int × List Int × Unit) (β := Int × List Int × Unit) (fun self4 x2 =>
  if x2.1 < ((z1.1.length : Nat) : Int) then
   if 0 ≤ x2.1 ∧ x2.1 < ((x2.2.1.length : Nat) : Int) then
   self4 (wi (x2.1 + 1), x2.2.1.set x2.1.toNat (-1), ())
   else none
  else
  some (x2.1, x2.2.1, ())
 ) 18446744073709551616 (0, z1.1, ())).bind fun z3 =>
 (lpF (σ := Int × List Bool × List Int × InhV × Unit) (β := Int × List Bool × List Int × InhV × Unit) (fun self7 x5 =>
  if x5.1 < ((z1.2.2.1.levels.length : Nat) : Int) then
   if (!(((x5.2.2.2.1.waits x5.1).getD (⟨0, 0, false, 0⟩ : WaitV)).settled)) = true then
   self7 (wi (x5.1 + 1), x5.2.1, x5.2.2.1, x5.2.2.2.1, ())
   else
   (lpF (σ := Int × Int × List Bool × List Int × InhV × Unit) (β := Int × Int × List Bool × List Int × InhV × Unit) (fun self10 x8 =>
   if x8.2.1 < ((x5.2.2.2.1.levels.length : Nat) : Int) then
   if x8.1 < 0 then
   some (x8.1, x8.2.1, x8.2.2.1, x8.2.2.2.1, x8.2.2.2.2.1, ())
   else
   if ((x8.2.2.2.1.length : Nat) : Int) ≤ x8.1 then
   some (x8.1, x8.2.1, x8.2.2.1, x8.2.2.2.1, x8.2.2.2.2.1, ())
   else
   if 0 ≤ x8.1 ∧ x8.1 < ((x8.2.2.1.length : Nat) : Int) then
   if (!(awO x8.2.2.1 x8.1)) = true then
   if 0 ≤ x8.1 ∧ x8.1 < ((x8.2.2.2.1.length : Nat) : Int) then
   if 0 ≤ x8.1 ∧ x8.1 < ((x8.2.2.1.length : Nat) : Int) then
   if (!(((x8.2.2.2.2.1.waits x8.1).getD (⟨0, 0, false, 0⟩ : WaitV)).settled)) = true then
   some (x8.1, x8.2.1, x8.2.2.1.set x8.1.toNat true, x8.2.2.2.1.set x8.1.toNat (((x5.2.2.2.1.waits x5.1).getD (⟨0, 0, false, 0⟩ : WaitV)).level), x8.2.2.2.2.1, ())
   else
   self10 (((x8.2.2.2.2.1.waits x8.1).getD (⟨0, 0, false, 0⟩ : WaitV)).child, wi (x8.2.1 + 1), x8.2.2.1.set x8.1.toNat true, x8.2.2.2.1.set x8.1.toNat (((x5.2.2.2.1.waits x5.1).getD (⟨0, 0, false, 0⟩ : WaitV)).level), x8.2.2.2.2.1, ())
   else none
   else none
   else
   if 0 ≤ x8.1 ∧ x8.1 < ((x8.2.2.2.1.length : Nat) : Int) then
   if (afP x8.2.2.2.1 x8.1) < (((x5.2.2.2.1.waits x5.1).getD (⟨0, 0, false, 0⟩ : WaitV)).level) then
   if 0 ≤ x8.1 ∧ x8.1 < ((x8.2.2.2.1.length : Nat) : Int) then
   if 0 ≤ x8.1 ∧ x8.1 < ((x8.2.2.1.length : Nat) : Int) then
   if (!(((x8.2.2.2.2.1.waits x8.1).getD (⟨0, 0, false, 0⟩ : WaitV)).settled)) = true then
   some (x8.1, x8.2.1, x8.2.2.1.set x8.1.toNat true, x8.2.2.2.1.set x8.1.toNat (((x5.2.2.2.1.waits x5.1).getD (⟨0, 0, false, 0⟩ : WaitV)).level), x8.2.2.2.2.1, ())
   else
   self10 (((x8.2.2.2.2.1.waits x8.1).getD (⟨0, 0, false, 0⟩ : WaitV)).child, wi (x8.2.1 + 1), x8.2.2.1.set x8.1.toNat true, x8.2.2.2.1.set x8.1.toNat (((x5.2.2.2.1.waits x5.1).getD (⟨0, 0, false, 0⟩ : WaitV)).level), x8.2.2.2.2.1, ())
   else none
   else none
   else
   if (!(((x8.2.2.2.2.1.waits x8.1).getD (⟨0, 0, false, 0⟩ : WaitV)).settled)) = true then
   some (x8.1, x8.2.1, x8.2.2.1, x8.2.2.2.1, x8.2.2.2.2.1, ())
   else
   self10 (((x8.2.2.2.2.1.waits x8.1).getD (⟨0, 0, false, 0⟩ : WaitV)).child, wi (x8.2.1 + 1), x8.2.2.1, x8.2.2.2.1, x8.2.2.2.2.1, ())
   else none
   else none
   else
   some (x8.1, x8.2.1, x8.2.2.1, x8.2.2.2.1, x8.2.2.2.2.1, ())
   ) 18446744073709551616 (((x5.2.2.2.1.waits x5.1).getD (⟨0, 0, false, 0⟩ : WaitV)).child, 0, x5.2.1, x5.2.2.1, x5.2.2.2.1, ())).bind fun z9 =>
   self7 (wi (x5.1 + 1), z9.2.2.1, z9.2.2.2.1, z9.2.2.2.2.1, ())
  else
  some (x5.1, x5.2.1, x5.2.2.1, x5.2.2.2.1, ())
 ) 18446744073709551616 (0, z1.2.1, z3.2.1, z1.2.2.1, ())).bind fun z6 =>
 some ((z6.2.2.1, ()), (z6.2.2.2.1, ()))
noncomputable def adZ (y0 : InhV) : Option (List Int × List Bool × InhV × Unit) :=
   if ((y0.levels.length : Nat) : Int) = ((y0.levels.length : Nat) : Int) then
   if 0 ≤ ((y0.levels.length : Nat) : Int) ∧ ((y0.levels.length : Nat) : Int) ≤ 1099511627776 then
   if ((y0.levels.length : Nat) : Int) = ((y0.levels.length : Nat) : Int) then
   if 0 ≤ ((y0.levels.length : Nat) : Int) ∧ ((y0.levels.length : Nat) : Int) ≤ 1099511627776 then
   some (List.replicate (((y0.levels.length : Nat) : Int) : Int).toNat (0 : Int), List.replicate (((y0.levels.length : Nat) : Int) : Int).toNat false, y0, ())
   else none
   else none
   else none
   else none
noncomputable def ad1 (y0 : InhV) : Option ((List Int × Unit) × (InhV × Unit)) :=
 (agr (adZ y0) (adZ y0)).bind af6
noncomputable abbrev ae6 : Con SR1 := ⟨67, [.ref 66], [.sh (.row 1)], fun x => ad1 x.1⟩
theorem aif : CO Tryz.prog ae6 := aai aah Tryz.func67 [] trivial [] trivial (fun _ => []) [(2, .cut [.rg 3 (.row 1), .rg 4 (.row 64), .ob 0 66] []), (3, .loop [.rg 24 sI_, .rg 3 (.row 1)] 18446744073709551616 0), (8, .loop [.rg 36 sI_, .rg 4 (.row 64), .rg 3 (.row 1), .ob 0 66] 18446744073709551616 2), (14, .loop [.rg 8 sI_, .rg 55 sI_, .rg 4 (.row 64), .rg 3 (.row 1), .ob 0 66] 18446744073709551616 4)] fun x => by kernel_rfl
noncomputable def acP (y0 : InhV) : Option ((List Int × Unit) × (InhV × Unit)) := (adZ y0).bind af6
noncomputable abbrev ad0 : Con SR1 := ⟨67, [.ref 66], [.sh (.row 1)], fun x => acP x.1⟩
theorem ajw (y0 : InhV) : ad1 y0 = acP y0 := by
  unfold ad1 acP
  rw [akh]
theorem afK : CO Tryz.prog ad0 := ayL aif fun x out hx => (show ae6.spec x = some out from (ajw x.1).trans hx)
noncomputable def ahI (y0 : InhV) : Option ((Bool × Unit) × (InhV × Unit)) :=
 (acP y0).bind fun r1 =>
 (lpF (σ := Int × InhV × Unit) (β := (Int × InhV × Unit) ⊕ ((Bool × Unit) × (InhV × Unit))) (fun self4 x2 =>
  if x2.1 < ((r1.1.1.length : Nat) : Int) then
   if 0 ≤ x2.1 ∧ x2.1 < ((r1.1.1.length : Nat) : Int) then
   if 0 ≤ x2.1 ∧ x2.1 < ((x2.2.1.finished.length : Nat) : Int) then
   if (!(awO x2.2.1.finished x2.1)) = true then
   if 0 ≤ x2.1 ∧ x2.1 < ((x2.2.1.levels.length : Nat) : Int) then
   if (afP x2.2.1.levels x2.1) < (afP r1.1.1 x2.1) then
   Option.map Sum.inr (
   some ((false, ()), (x2.2.1, ()))
   )
   else
   self4 (wi (x2.1 + 1), x2.2.1, ())
   else none
   else
   self4 (wi (x2.1 + 1), x2.2.1, ())
   else none
   else none
  else
  some (Sum.inl (x2.1, x2.2.1, ()))
 ) 18446744073709551616 (0, r1.2.1, ())).bind fun z3 => match z3 with
 | .inr o5 => some o5
 | .inl z3 =>
 some ((true, ()), (z3.2.1, ()))
noncomputable abbrev agL : Con SR1 := ⟨42, [.ref 66], [.sh .b], fun x => ahI x.1⟩
theorem akr : CO Tryz.prog agL := aai aah Tryz.func42 [ad0] ⟨afK, trivial⟩ [] trivial (fun _ => []) [(2, .loopR [.rg 8 sI_, .ob 0 66] 18446744073709551616 0)] fun x => by kernel_rfl
noncomputable def akY (y0 : Cfg) (y1 : List Ev) : Option ((InhV × Unit) × (Unit)) :=
 (agM y0).bind fun r1 =>
 (lpF (σ := Int × InhV × Unit) (β := Int × InhV × Unit) (fun self4 x2 =>
  if x2.1 < ((y1.length : Nat) : Int) then
   if 0 ≤ x2.1 ∧ x2.1 < ((y1.length : Nat) : Int) then
   (afg x2.2.1 (aaS y1 x2.1)).bind fun r5 =>
   self4 (wi (x2.1 + 1), r5.2.1, ())
   else none
  else
  some (x2.1, x2.2.1, ())
 ) 18446744073709551616 (0, r1.1.1, ())).bind fun z3 =>
 some ((z3.2.1, ()), (()))
noncomputable abbrev aig : Con SR1 := ⟨66, [.val 13, .sh (.ro 2)], [.sh (.own 66)], fun x => akY x.1 x.2.1⟩
theorem akD : CO Tryz.prog aig := aai aah Tryz.func66 [afh, aem] ⟨ag1, af7, trivial⟩ [] trivial (fun _ => []) [(3, .loop [.rg 12 sI_, .rg 5 (.own 66)] 18446744073709551616 0)] fun x => by kernel_rfl
noncomputable def ag2 (y0 : Cfg) (y1 : List Ev) : Option ((Int × Int × Unit) × (Unit)) :=
 (akf y0).bind fun r1 =>
 if r1.1.1 ≠ 0 then
  some ((0, r1.1.1, ()), (()))
 else
 (agM y0).bind fun r2 =>
 (lpF (σ := Int × InhV × Unit) (β := (Int × InhV × Unit) ⊕ ((Int × Int × Unit) × (Unit))) (fun self5 x3 =>
  if x3.1 < ((y1.length : Nat) : Int) then
   if 0 ≤ x3.1 ∧ x3.1 < ((y1.length : Nat) : Int) then
   (afg x3.2.1 (aaS y1 x3.1)).bind fun r6 =>
   if (!r6.1.1) = true then
   Option.map Sum.inr (
   some ((x3.1, 6, ()), (()))
   )
   else
   (ahI r6.2.1).bind fun r7 =>
   if (!r7.1.1) = true then
   Option.map Sum.inr (
   some ((x3.1, 6, ()), (()))
   )
   else
   self5 (wi (x3.1 + 1), r7.2.1, ())
   else none
  else
  some (Sum.inl (x3.1, x3.2.1, ()))
 ) 18446744073709551616 (0, r2.1.1, ())).bind fun z4 => match z4 with
 | .inr o8 => some o8
 | .inl z4 =>
 some ((((y1.length : Nat) : Int), 0, ()), (()))
noncomputable abbrev akE : Con SR1 := ⟨16, [.val 13, .sh (.ro 2)], [.sh sI_, .sh sI_], fun x => ag2 x.1 x.2.1⟩
theorem apu : CO Tryz.prog akE := aai aah Tryz.func16 [ahP, afh, aem, agL] ⟨ait, ag1, af7, akr, trivial⟩ [] trivial (fun _ => []) [(6, .loopR [.rg 19 sI_, .rg 7 (.own 66)] 18446744073709551616 0)] fun x => by kernel_rfl
noncomputable def al7 (y0 : Cfg) (y1 : List Ev) : Option ((List Int × Unit) × (Unit)) :=
 (akf y0).bind fun r1 =>
 if r1.1.1 ≠ 0 then
  some (([], ()), (()))
 else
 (akY y0 y1).bind fun r2 =>
 (acP r2.1.1).bind fun r3 =>
 some ((r3.1.1, ()), (()))
noncomputable abbrev ajy : Con SR1 := ⟨36, [.val 13, .sh (.ro 2)], [.sh (.row 1)], fun x => al7 x.1 x.2.1⟩
theorem an1 : CO Tryz.prog ajy := aai aah Tryz.func36 [ahP, aig, ad0] ⟨ait, akD, afK, trivial⟩ [] trivial (fun _ => []) [] fun x => by kernel_rfl
noncomputable def al6 (y0 : Cfg) (y1 : List Ev) : Option ((List Int × Unit) × (Unit)) :=
 (akf y0).bind fun r1 =>
 if r1.1.1 ≠ 0 then
  some (([], ()), (()))
 else
 (akY y0 y1).bind fun r2 =>
 some ((r2.1.1.levels, ()), (()))
noncomputable abbrev ajx : Con SR1 := ⟨37, [.val 13, .sh (.ro 2)], [.sh (.row 1)], fun x => al6 x.1 x.2.1⟩
theorem an0 : CO Tryz.prog ajx := aai aah Tryz.func37 [ahP, aig] ⟨ait, akD, trivial⟩ [] trivial (fun _ => []) [] fun x => by kernel_rfl
noncomputable def abX  : Option ((Cfg × Unit) × (Unit)) :=
 (afU ([])).bind fun r1 =>
 some ((({ r1.1.1 with levels := 3, tasks := 4 } : Cfg), ()), (()))
noncomputable abbrev afY : Con SR1 := ⟨34, [], [.val 13], fun x => abX ⟩
theorem ai2 : CO Tryz.prog afY := aai aah Tryz.func34 [ahG] ⟨ahF, trivial⟩ [] trivial (fun _ => []) [] fun x => by kernel_rfl
noncomputable def aex (y0 : List Int) (y1 : List Int) : Option ((Bool × Unit) × (Unit)) :=
 if ((y0.length : Nat) : Int) ≠ ((y1.length : Nat) : Int) then
  some ((false, ()), (()))
 else
 (lpF (σ := Int × Unit) (β := (Int × Unit) ⊕ ((Bool × Unit) × (Unit))) (fun self3 x1 =>
  if x1.1 < ((y0.length : Nat) : Int) then
   if 0 ≤ x1.1 ∧ x1.1 < ((y0.length : Nat) : Int) then
   if 0 ≤ x1.1 ∧ x1.1 < ((y1.length : Nat) : Int) then
   if (afP y0 x1.1) ≠ (afP y1 x1.1) then
   Option.map Sum.inr (
   some ((false, ()), (()))
   )
   else
   self3 (wi (x1.1 + 1), ())
   else none
   else none
  else
  some (Sum.inl (x1.1, ()))
 ) 18446744073709551616 (0, ())).bind fun z2 => match z2 with
 | .inr o4 => some o4
 | .inl z2 =>
 some ((true, ()), (()))
noncomputable abbrev afV : Con SR1 := ⟨35, [.sh (.ro 1), .sh (.ro 1)], [.sh .b], fun x => aex x.1 x.2.1⟩
theorem aiZ : CO Tryz.prog afV := aai aah Tryz.func35 [] trivial [] trivial (fun _ => []) [(4, .loopR [.rg 5 sI_] 18446744073709551616 0)] fun x => by kernel_rfl
noncomputable def adF  : Option ((Bool × Unit) × (Unit)) :=
 (abX).bind fun r1 =>
 (ag2 r1.1.1 ([(⟨1, 1, 0, 0, 2⟩ : Ev), (⟨3, 0, 1, 0, 0⟩ : Ev), (⟨6, 0, 0, 1, 0⟩ : Ev), (⟨11, 0, 1, 0, 2⟩ : Ev), (⟨7, 0, 0, 0, 2⟩ : Ev)])).bind fun r2 =>
 ((
  if 0 ≤ (0 : Int) ∧ (0 : Int) < ((([(⟨1, 1, 0, 0, 2⟩ : Ev), (⟨3, 0, 1, 0, 0⟩ : Ev), (⟨6, 0, 0, 1, 0⟩ : Ev), (⟨11, 0, 1, 0, 2⟩ : Ev), (⟨7, 0, 0, 0, 2⟩ : Ev)] : List Ev).length : Nat) : Int) then
   if 0 ≤ (1 : Int) ∧ (1 : Int) < ((([(⟨1, 1, 0, 0, 2⟩ : Ev), (⟨3, 0, 1, 0, 0⟩ : Ev), (⟨6, 0, 0, 1, 0⟩ : Ev), (⟨11, 0, 1, 0, 2⟩ : Ev), (⟨7, 0, 0, 0, 2⟩ : Ev)] : List Ev).length : Nat) : Int) then
   if 0 ≤ (2 : Int) ∧ (2 : Int) < ((([(⟨1, 1, 0, 0, 2⟩ : Ev), (⟨3, 0, 1, 0, 0⟩ : Ev), (⟨6, 0, 0, 1, 0⟩ : Ev), (⟨11, 0, 1, 0, 2⟩ : Ev), (⟨7, 0, 0, 0, 2⟩ : Ev)] : List Ev).length : Nat) : Int) then
   if 0 ≤ (4 : Int) ∧ (4 : Int) < ((([(⟨1, 1, 0, 0, 2⟩ : Ev), (⟨3, 0, 1, 0, 0⟩ : Ev), (⟨6, 0, 0, 1, 0⟩ : Ev), (⟨11, 0, 1, 0, 2⟩ : Ev), (⟨7, 0, 0, 0, 2⟩ : Ev)] : List Ev).length : Nat) : Int) then
   agr (
   (abX).bind fun r5 =>
   if ((aaS ([(⟨1, 1, 0, 0, 2⟩ : Ev), (⟨3, 0, 1, 0, 0⟩ : Ev), (⟨6, 0, 0, 1, 0⟩ : Ev), (⟨11, 0, 1, 0, 2⟩ : Ev), (⟨7, 0, 0, 0, 2⟩ : Ev)]) 4).kind) = ((aaS ([(⟨1, 1, 0, 0, 2⟩ : Ev), (⟨3, 0, 1, 0, 0⟩ : Ev), (⟨6, 0, 0, 1, 0⟩ : Ev), (⟨11, 0, 1, 0, 2⟩ : Ev), (⟨7, 0, 0, 0, 2⟩ : Ev)]) 4).kind) then
   if ((aaS ([(⟨1, 1, 0, 0, 2⟩ : Ev), (⟨3, 0, 1, 0, 0⟩ : Ev), (⟨6, 0, 0, 1, 0⟩ : Ev), (⟨11, 0, 1, 0, 2⟩ : Ev), (⟨7, 0, 0, 0, 2⟩ : Ev)]) 4).worker) = ((aaS ([(⟨1, 1, 0, 0, 2⟩ : Ev), (⟨3, 0, 1, 0, 0⟩ : Ev), (⟨6, 0, 0, 1, 0⟩ : Ev), (⟨11, 0, 1, 0, 2⟩ : Ev), (⟨7, 0, 0, 0, 2⟩ : Ev)]) 4).worker) then
   if ((aaS ([(⟨1, 1, 0, 0, 2⟩ : Ev), (⟨3, 0, 1, 0, 0⟩ : Ev), (⟨6, 0, 0, 1, 0⟩ : Ev), (⟨11, 0, 1, 0, 2⟩ : Ev), (⟨7, 0, 0, 0, 2⟩ : Ev)]) 4).task) = ((aaS ([(⟨1, 1, 0, 0, 2⟩ : Ev), (⟨3, 0, 1, 0, 0⟩ : Ev), (⟨6, 0, 0, 1, 0⟩ : Ev), (⟨11, 0, 1, 0, 2⟩ : Ev), (⟨7, 0, 0, 0, 2⟩ : Ev)]) 4).task) then
   if ((aaS ([(⟨1, 1, 0, 0, 2⟩ : Ev), (⟨3, 0, 1, 0, 0⟩ : Ev), (⟨6, 0, 0, 1, 0⟩ : Ev), (⟨11, 0, 1, 0, 2⟩ : Ev), (⟨7, 0, 0, 0, 2⟩ : Ev)]) 4).other) = ((aaS ([(⟨1, 1, 0, 0, 2⟩ : Ev), (⟨3, 0, 1, 0, 0⟩ : Ev), (⟨6, 0, 0, 1, 0⟩ : Ev), (⟨11, 0, 1, 0, 2⟩ : Ev), (⟨7, 0, 0, 0, 2⟩ : Ev)]) 4).other) then
   if ((aaS ([(⟨1, 1, 0, 0, 2⟩ : Ev), (⟨3, 0, 1, 0, 0⟩ : Ev), (⟨6, 0, 0, 1, 0⟩ : Ev), (⟨11, 0, 1, 0, 2⟩ : Ev), (⟨7, 0, 0, 0, 2⟩ : Ev)]) 4).level) = ((aaS ([(⟨1, 1, 0, 0, 2⟩ : Ev), (⟨3, 0, 1, 0, 0⟩ : Ev), (⟨6, 0, 0, 1, 0⟩ : Ev), (⟨11, 0, 1, 0, 2⟩ : Ev), (⟨7, 0, 0, 0, 2⟩ : Ev)]) 4).level) then
   if ((aaS ([(⟨1, 1, 0, 0, 2⟩ : Ev), (⟨3, 0, 1, 0, 0⟩ : Ev), (⟨6, 0, 0, 1, 0⟩ : Ev), (⟨11, 0, 1, 0, 2⟩ : Ev), (⟨7, 0, 0, 0, 2⟩ : Ev)]) 2).kind) = ((aaS ([(⟨1, 1, 0, 0, 2⟩ : Ev), (⟨3, 0, 1, 0, 0⟩ : Ev), (⟨6, 0, 0, 1, 0⟩ : Ev), (⟨11, 0, 1, 0, 2⟩ : Ev), (⟨7, 0, 0, 0, 2⟩ : Ev)]) 2).kind) then
   if ((aaS ([(⟨1, 1, 0, 0, 2⟩ : Ev), (⟨3, 0, 1, 0, 0⟩ : Ev), (⟨6, 0, 0, 1, 0⟩ : Ev), (⟨11, 0, 1, 0, 2⟩ : Ev), (⟨7, 0, 0, 0, 2⟩ : Ev)]) 2).worker) = ((aaS ([(⟨1, 1, 0, 0, 2⟩ : Ev), (⟨3, 0, 1, 0, 0⟩ : Ev), (⟨6, 0, 0, 1, 0⟩ : Ev), (⟨11, 0, 1, 0, 2⟩ : Ev), (⟨7, 0, 0, 0, 2⟩ : Ev)]) 2).worker) then
   if ((aaS ([(⟨1, 1, 0, 0, 2⟩ : Ev), (⟨3, 0, 1, 0, 0⟩ : Ev), (⟨6, 0, 0, 1, 0⟩ : Ev), (⟨11, 0, 1, 0, 2⟩ : Ev), (⟨7, 0, 0, 0, 2⟩ : Ev)]) 2).task) = ((aaS ([(⟨1, 1, 0, 0, 2⟩ : Ev), (⟨3, 0, 1, 0, 0⟩ : Ev), (⟨6, 0, 0, 1, 0⟩ : Ev), (⟨11, 0, 1, 0, 2⟩ : Ev), (⟨7, 0, 0, 0, 2⟩ : Ev)]) 2).task) then
   if ((aaS ([(⟨1, 1, 0, 0, 2⟩ : Ev), (⟨3, 0, 1, 0, 0⟩ : Ev), (⟨6, 0, 0, 1, 0⟩ : Ev), (⟨11, 0, 1, 0, 2⟩ : Ev), (⟨7, 0, 0, 0, 2⟩ : Ev)]) 2).other) = ((aaS ([(⟨1, 1, 0, 0, 2⟩ : Ev), (⟨3, 0, 1, 0, 0⟩ : Ev), (⟨6, 0, 0, 1, 0⟩ : Ev), (⟨11, 0, 1, 0, 2⟩ : Ev), (⟨7, 0, 0, 0, 2⟩ : Ev)]) 2).other) then
   if ((aaS ([(⟨1, 1, 0, 0, 2⟩ : Ev), (⟨3, 0, 1, 0, 0⟩ : Ev), (⟨6, 0, 0, 1, 0⟩ : Ev), (⟨11, 0, 1, 0, 2⟩ : Ev), (⟨7, 0, 0, 0, 2⟩ : Ev)]) 2).level) = ((aaS ([(⟨1, 1, 0, 0, 2⟩ : Ev), (⟨3, 0, 1, 0, 0⟩ : Ev), (⟨6, 0, 0, 1, 0⟩ : Ev), (⟨11, 0, 1, 0, 2⟩ : Ev), (⟨7, 0, 0, 0, 2⟩ : Ev)]) 2).level) then
   if ((aaS ([(⟨1, 1, 0, 0, 2⟩ : Ev), (⟨3, 0, 1, 0, 0⟩ : Ev), (⟨6, 0, 0, 1, 0⟩ : Ev), (⟨11, 0, 1, 0, 2⟩ : Ev), (⟨7, 0, 0, 0, 2⟩ : Ev)]) 1).kind) = ((aaS ([(⟨1, 1, 0, 0, 2⟩ : Ev), (⟨3, 0, 1, 0, 0⟩ : Ev), (⟨6, 0, 0, 1, 0⟩ : Ev), (⟨11, 0, 1, 0, 2⟩ : Ev), (⟨7, 0, 0, 0, 2⟩ : Ev)]) 1).kind) then
   if ((aaS ([(⟨1, 1, 0, 0, 2⟩ : Ev), (⟨3, 0, 1, 0, 0⟩ : Ev), (⟨6, 0, 0, 1, 0⟩ : Ev), (⟨11, 0, 1, 0, 2⟩ : Ev), (⟨7, 0, 0, 0, 2⟩ : Ev)]) 1).worker) = ((aaS ([(⟨1, 1, 0, 0, 2⟩ : Ev), (⟨3, 0, 1, 0, 0⟩ : Ev), (⟨6, 0, 0, 1, 0⟩ : Ev), (⟨11, 0, 1, 0, 2⟩ : Ev), (⟨7, 0, 0, 0, 2⟩ : Ev)]) 1).worker) then
   if ((aaS ([(⟨1, 1, 0, 0, 2⟩ : Ev), (⟨3, 0, 1, 0, 0⟩ : Ev), (⟨6, 0, 0, 1, 0⟩ : Ev), (⟨11, 0, 1, 0, 2⟩ : Ev), (⟨7, 0, 0, 0, 2⟩ : Ev)]) 1).task) = ((aaS ([(⟨1, 1, 0, 0, 2⟩ : Ev), (⟨3, 0, 1, 0, 0⟩ : Ev), (⟨6, 0, 0, 1, 0⟩ : Ev), (⟨11, 0, 1, 0, 2⟩ : Ev), (⟨7, 0, 0, 0, 2⟩ : Ev)]) 1).task) then
   if ((aaS ([(⟨1, 1, 0, 0, 2⟩ : Ev), (⟨3, 0, 1, 0, 0⟩ : Ev), (⟨6, 0, 0, 1, 0⟩ : Ev), (⟨11, 0, 1, 0, 2⟩ : Ev), (⟨7, 0, 0, 0, 2⟩ : Ev)]) 1).other) = ((aaS ([(⟨1, 1, 0, 0, 2⟩ : Ev), (⟨3, 0, 1, 0, 0⟩ : Ev), (⟨6, 0, 0, 1, 0⟩ : Ev), (⟨11, 0, 1, 0, 2⟩ : Ev), (⟨7, 0, 0, 0, 2⟩ : Ev)]) 1).other) then
   if ((aaS ([(⟨1, 1, 0, 0, 2⟩ : Ev), (⟨3, 0, 1, 0, 0⟩ : Ev), (⟨6, 0, 0, 1, 0⟩ : Ev), (⟨11, 0, 1, 0, 2⟩ : Ev), (⟨7, 0, 0, 0, 2⟩ : Ev)]) 1).level) = ((aaS ([(⟨1, 1, 0, 0, 2⟩ : Ev), (⟨3, 0, 1, 0, 0⟩ : Ev), (⟨6, 0, 0, 1, 0⟩ : Ev), (⟨11, 0, 1, 0, 2⟩ : Ev), (⟨7, 0, 0, 0, 2⟩ : Ev)]) 1).level) then
   if ((aaS ([(⟨1, 1, 0, 0, 2⟩ : Ev), (⟨3, 0, 1, 0, 0⟩ : Ev), (⟨6, 0, 0, 1, 0⟩ : Ev), (⟨11, 0, 1, 0, 2⟩ : Ev), (⟨7, 0, 0, 0, 2⟩ : Ev)]) 0).kind) = ((aaS ([(⟨1, 1, 0, 0, 2⟩ : Ev), (⟨3, 0, 1, 0, 0⟩ : Ev), (⟨6, 0, 0, 1, 0⟩ : Ev), (⟨11, 0, 1, 0, 2⟩ : Ev), (⟨7, 0, 0, 0, 2⟩ : Ev)]) 0).kind) then
   if ((aaS ([(⟨1, 1, 0, 0, 2⟩ : Ev), (⟨3, 0, 1, 0, 0⟩ : Ev), (⟨6, 0, 0, 1, 0⟩ : Ev), (⟨11, 0, 1, 0, 2⟩ : Ev), (⟨7, 0, 0, 0, 2⟩ : Ev)]) 0).worker) = ((aaS ([(⟨1, 1, 0, 0, 2⟩ : Ev), (⟨3, 0, 1, 0, 0⟩ : Ev), (⟨6, 0, 0, 1, 0⟩ : Ev), (⟨11, 0, 1, 0, 2⟩ : Ev), (⟨7, 0, 0, 0, 2⟩ : Ev)]) 0).worker) then
   if ((aaS ([(⟨1, 1, 0, 0, 2⟩ : Ev), (⟨3, 0, 1, 0, 0⟩ : Ev), (⟨6, 0, 0, 1, 0⟩ : Ev), (⟨11, 0, 1, 0, 2⟩ : Ev), (⟨7, 0, 0, 0, 2⟩ : Ev)]) 0).task) = ((aaS ([(⟨1, 1, 0, 0, 2⟩ : Ev), (⟨3, 0, 1, 0, 0⟩ : Ev), (⟨6, 0, 0, 1, 0⟩ : Ev), (⟨11, 0, 1, 0, 2⟩ : Ev), (⟨7, 0, 0, 0, 2⟩ : Ev)]) 0).task) then
   if ((aaS ([(⟨1, 1, 0, 0, 2⟩ : Ev), (⟨3, 0, 1, 0, 0⟩ : Ev), (⟨6, 0, 0, 1, 0⟩ : Ev), (⟨11, 0, 1, 0, 2⟩ : Ev), (⟨7, 0, 0, 0, 2⟩ : Ev)]) 0).other) = ((aaS ([(⟨1, 1, 0, 0, 2⟩ : Ev), (⟨3, 0, 1, 0, 0⟩ : Ev), (⟨6, 0, 0, 1, 0⟩ : Ev), (⟨11, 0, 1, 0, 2⟩ : Ev), (⟨7, 0, 0, 0, 2⟩ : Ev)]) 0).other) then
   if ((aaS ([(⟨1, 1, 0, 0, 2⟩ : Ev), (⟨3, 0, 1, 0, 0⟩ : Ev), (⟨6, 0, 0, 1, 0⟩ : Ev), (⟨11, 0, 1, 0, 2⟩ : Ev), (⟨7, 0, 0, 0, 2⟩ : Ev)]) 0).level) = ((aaS ([(⟨1, 1, 0, 0, 2⟩ : Ev), (⟨3, 0, 1, 0, 0⟩ : Ev), (⟨6, 0, 0, 1, 0⟩ : Ev), (⟨11, 0, 1, 0, 2⟩ : Ev), (⟨7, 0, 0, 0, 2⟩ : Ev)]) 0).level) then
   (ag2 r5.1.1 ([aaS ([(⟨1, 1, 0, 0, 2⟩ : Ev), (⟨3, 0, 1, 0, 0⟩ : Ev), (⟨6, 0, 0, 1, 0⟩ : Ev), (⟨11, 0, 1, 0, 2⟩ : Ev), (⟨7, 0, 0, 0, 2⟩ : Ev)]) 0, aaS ([(⟨1, 1, 0, 0, 2⟩ : Ev), (⟨3, 0, 1, 0, 0⟩ : Ev), (⟨6, 0, 0, 1, 0⟩ : Ev), (⟨11, 0, 1, 0, 2⟩ : Ev), (⟨7, 0, 0, 0, 2⟩ : Ev)]) 1, aaS ([(⟨1, 1, 0, 0, 2⟩ : Ev), (⟨3, 0, 1, 0, 0⟩ : Ev), (⟨6, 0, 0, 1, 0⟩ : Ev), (⟨11, 0, 1, 0, 2⟩ : Ev), (⟨7, 0, 0, 0, 2⟩ : Ev)]) 2, aaS ([(⟨1, 1, 0, 0, 2⟩ : Ev), (⟨3, 0, 1, 0, 0⟩ : Ev), (⟨6, 0, 0, 1, 0⟩ : Ev), (⟨11, 0, 1, 0, 2⟩ : Ev), (⟨7, 0, 0, 0, 2⟩ : Ev)]) 4])).bind fun r6 =>
   some (r6.1.1, r6.1.2.1, ())
   else none
   else none
   else none
   else none
   else none
   else none
   else none
   else none
   else none
   else none
   else none
   else none
   else none
   else none
   else none
   else none
   else none
   else none
   else none
   else none
   ) (
   (abX).bind fun r3 =>
   if ((aaS ([(⟨1, 1, 0, 0, 2⟩ : Ev), (⟨3, 0, 1, 0, 0⟩ : Ev), (⟨6, 0, 0, 1, 0⟩ : Ev), (⟨11, 0, 1, 0, 2⟩ : Ev), (⟨7, 0, 0, 0, 2⟩ : Ev)]) 4).kind) = ((aaS ([(⟨1, 1, 0, 0, 2⟩ : Ev), (⟨3, 0, 1, 0, 0⟩ : Ev), (⟨6, 0, 0, 1, 0⟩ : Ev), (⟨11, 0, 1, 0, 2⟩ : Ev), (⟨7, 0, 0, 0, 2⟩ : Ev)]) 4).kind) then
   if ((aaS ([(⟨1, 1, 0, 0, 2⟩ : Ev), (⟨3, 0, 1, 0, 0⟩ : Ev), (⟨6, 0, 0, 1, 0⟩ : Ev), (⟨11, 0, 1, 0, 2⟩ : Ev), (⟨7, 0, 0, 0, 2⟩ : Ev)]) 4).worker) = ((aaS ([(⟨1, 1, 0, 0, 2⟩ : Ev), (⟨3, 0, 1, 0, 0⟩ : Ev), (⟨6, 0, 0, 1, 0⟩ : Ev), (⟨11, 0, 1, 0, 2⟩ : Ev), (⟨7, 0, 0, 0, 2⟩ : Ev)]) 4).worker) then
   if ((aaS ([(⟨1, 1, 0, 0, 2⟩ : Ev), (⟨3, 0, 1, 0, 0⟩ : Ev), (⟨6, 0, 0, 1, 0⟩ : Ev), (⟨11, 0, 1, 0, 2⟩ : Ev), (⟨7, 0, 0, 0, 2⟩ : Ev)]) 4).task) = ((aaS ([(⟨1, 1, 0, 0, 2⟩ : Ev), (⟨3, 0, 1, 0, 0⟩ : Ev), (⟨6, 0, 0, 1, 0⟩ : Ev), (⟨11, 0, 1, 0, 2⟩ : Ev), (⟨7, 0, 0, 0, 2⟩ : Ev)]) 4).task) then
   if ((aaS ([(⟨1, 1, 0, 0, 2⟩ : Ev), (⟨3, 0, 1, 0, 0⟩ : Ev), (⟨6, 0, 0, 1, 0⟩ : Ev), (⟨11, 0, 1, 0, 2⟩ : Ev), (⟨7, 0, 0, 0, 2⟩ : Ev)]) 4).other) = ((aaS ([(⟨1, 1, 0, 0, 2⟩ : Ev), (⟨3, 0, 1, 0, 0⟩ : Ev), (⟨6, 0, 0, 1, 0⟩ : Ev), (⟨11, 0, 1, 0, 2⟩ : Ev), (⟨7, 0, 0, 0, 2⟩ : Ev)]) 4).other) then
   if ((aaS ([(⟨1, 1, 0, 0, 2⟩ : Ev), (⟨3, 0, 1, 0, 0⟩ : Ev), (⟨6, 0, 0, 1, 0⟩ : Ev), (⟨11, 0, 1, 0, 2⟩ : Ev), (⟨7, 0, 0, 0, 2⟩ : Ev)]) 4).level) = ((aaS ([(⟨1, 1, 0, 0, 2⟩ : Ev), (⟨3, 0, 1, 0, 0⟩ : Ev), (⟨6, 0, 0, 1, 0⟩ : Ev), (⟨11, 0, 1, 0, 2⟩ : Ev), (⟨7, 0, 0, 0, 2⟩ : Ev)]) 4).level) then
   if ((aaS ([(⟨1, 1, 0, 0, 2⟩ : Ev), (⟨3, 0, 1, 0, 0⟩ : Ev), (⟨6, 0, 0, 1, 0⟩ : Ev), (⟨11, 0, 1, 0, 2⟩ : Ev), (⟨7, 0, 0, 0, 2⟩ : Ev)]) 2).kind) = ((aaS ([(⟨1, 1, 0, 0, 2⟩ : Ev), (⟨3, 0, 1, 0, 0⟩ : Ev), (⟨6, 0, 0, 1, 0⟩ : Ev), (⟨11, 0, 1, 0, 2⟩ : Ev), (⟨7, 0, 0, 0, 2⟩ : Ev)]) 2).kind) then
   if ((aaS ([(⟨1, 1, 0, 0, 2⟩ : Ev), (⟨3, 0, 1, 0, 0⟩ : Ev), (⟨6, 0, 0, 1, 0⟩ : Ev), (⟨11, 0, 1, 0, 2⟩ : Ev), (⟨7, 0, 0, 0, 2⟩ : Ev)]) 2).worker) = ((aaS ([(⟨1, 1, 0, 0, 2⟩ : Ev), (⟨3, 0, 1, 0, 0⟩ : Ev), (⟨6, 0, 0, 1, 0⟩ : Ev), (⟨11, 0, 1, 0, 2⟩ : Ev), (⟨7, 0, 0, 0, 2⟩ : Ev)]) 2).worker) then
   if ((aaS ([(⟨1, 1, 0, 0, 2⟩ : Ev), (⟨3, 0, 1, 0, 0⟩ : Ev), (⟨6, 0, 0, 1, 0⟩ : Ev), (⟨11, 0, 1, 0, 2⟩ : Ev), (⟨7, 0, 0, 0, 2⟩ : Ev)]) 2).task) = ((aaS ([(⟨1, 1, 0, 0, 2⟩ : Ev), (⟨3, 0, 1, 0, 0⟩ : Ev), (⟨6, 0, 0, 1, 0⟩ : Ev), (⟨11, 0, 1, 0, 2⟩ : Ev), (⟨7, 0, 0, 0, 2⟩ : Ev)]) 2).task) then
   if ((aaS ([(⟨1, 1, 0, 0, 2⟩ : Ev), (⟨3, 0, 1, 0, 0⟩ : Ev), (⟨6, 0, 0, 1, 0⟩ : Ev), (⟨11, 0, 1, 0, 2⟩ : Ev), (⟨7, 0, 0, 0, 2⟩ : Ev)]) 2).other) = ((aaS ([(⟨1, 1, 0, 0, 2⟩ : Ev), (⟨3, 0, 1, 0, 0⟩ : Ev), (⟨6, 0, 0, 1, 0⟩ : Ev), (⟨11, 0, 1, 0, 2⟩ : Ev), (⟨7, 0, 0, 0, 2⟩ : Ev)]) 2).other) then
   if ((aaS ([(⟨1, 1, 0, 0, 2⟩ : Ev), (⟨3, 0, 1, 0, 0⟩ : Ev), (⟨6, 0, 0, 1, 0⟩ : Ev), (⟨11, 0, 1, 0, 2⟩ : Ev), (⟨7, 0, 0, 0, 2⟩ : Ev)]) 2).level) = ((aaS ([(⟨1, 1, 0, 0, 2⟩ : Ev), (⟨3, 0, 1, 0, 0⟩ : Ev), (⟨6, 0, 0, 1, 0⟩ : Ev), (⟨11, 0, 1, 0, 2⟩ : Ev), (⟨7, 0, 0, 0, 2⟩ : Ev)]) 2).level) then
   if ((aaS ([(⟨1, 1, 0, 0, 2⟩ : Ev), (⟨3, 0, 1, 0, 0⟩ : Ev), (⟨6, 0, 0, 1, 0⟩ : Ev), (⟨11, 0, 1, 0, 2⟩ : Ev), (⟨7, 0, 0, 0, 2⟩ : Ev)]) 1).kind) = ((aaS ([(⟨1, 1, 0, 0, 2⟩ : Ev), (⟨3, 0, 1, 0, 0⟩ : Ev), (⟨6, 0, 0, 1, 0⟩ : Ev), (⟨11, 0, 1, 0, 2⟩ : Ev), (⟨7, 0, 0, 0, 2⟩ : Ev)]) 1).kind) then
   if ((aaS ([(⟨1, 1, 0, 0, 2⟩ : Ev), (⟨3, 0, 1, 0, 0⟩ : Ev), (⟨6, 0, 0, 1, 0⟩ : Ev), (⟨11, 0, 1, 0, 2⟩ : Ev), (⟨7, 0, 0, 0, 2⟩ : Ev)]) 1).worker) = ((aaS ([(⟨1, 1, 0, 0, 2⟩ : Ev), (⟨3, 0, 1, 0, 0⟩ : Ev), (⟨6, 0, 0, 1, 0⟩ : Ev), (⟨11, 0, 1, 0, 2⟩ : Ev), (⟨7, 0, 0, 0, 2⟩ : Ev)]) 1).worker) then
   if ((aaS ([(⟨1, 1, 0, 0, 2⟩ : Ev), (⟨3, 0, 1, 0, 0⟩ : Ev), (⟨6, 0, 0, 1, 0⟩ : Ev), (⟨11, 0, 1, 0, 2⟩ : Ev), (⟨7, 0, 0, 0, 2⟩ : Ev)]) 1).task) = ((aaS ([(⟨1, 1, 0, 0, 2⟩ : Ev), (⟨3, 0, 1, 0, 0⟩ : Ev), (⟨6, 0, 0, 1, 0⟩ : Ev), (⟨11, 0, 1, 0, 2⟩ : Ev), (⟨7, 0, 0, 0, 2⟩ : Ev)]) 1).task) then
   if ((aaS ([(⟨1, 1, 0, 0, 2⟩ : Ev), (⟨3, 0, 1, 0, 0⟩ : Ev), (⟨6, 0, 0, 1, 0⟩ : Ev), (⟨11, 0, 1, 0, 2⟩ : Ev), (⟨7, 0, 0, 0, 2⟩ : Ev)]) 1).other) = ((aaS ([(⟨1, 1, 0, 0, 2⟩ : Ev), (⟨3, 0, 1, 0, 0⟩ : Ev), (⟨6, 0, 0, 1, 0⟩ : Ev), (⟨11, 0, 1, 0, 2⟩ : Ev), (⟨7, 0, 0, 0, 2⟩ : Ev)]) 1).other) then
   if ((aaS ([(⟨1, 1, 0, 0, 2⟩ : Ev), (⟨3, 0, 1, 0, 0⟩ : Ev), (⟨6, 0, 0, 1, 0⟩ : Ev), (⟨11, 0, 1, 0, 2⟩ : Ev), (⟨7, 0, 0, 0, 2⟩ : Ev)]) 1).level) = ((aaS ([(⟨1, 1, 0, 0, 2⟩ : Ev), (⟨3, 0, 1, 0, 0⟩ : Ev), (⟨6, 0, 0, 1, 0⟩ : Ev), (⟨11, 0, 1, 0, 2⟩ : Ev), (⟨7, 0, 0, 0, 2⟩ : Ev)]) 1).level) then
   if ((aaS ([(⟨1, 1, 0, 0, 2⟩ : Ev), (⟨3, 0, 1, 0, 0⟩ : Ev), (⟨6, 0, 0, 1, 0⟩ : Ev), (⟨11, 0, 1, 0, 2⟩ : Ev), (⟨7, 0, 0, 0, 2⟩ : Ev)]) 0).kind) = ((aaS ([(⟨1, 1, 0, 0, 2⟩ : Ev), (⟨3, 0, 1, 0, 0⟩ : Ev), (⟨6, 0, 0, 1, 0⟩ : Ev), (⟨11, 0, 1, 0, 2⟩ : Ev), (⟨7, 0, 0, 0, 2⟩ : Ev)]) 0).kind) then
   if ((aaS ([(⟨1, 1, 0, 0, 2⟩ : Ev), (⟨3, 0, 1, 0, 0⟩ : Ev), (⟨6, 0, 0, 1, 0⟩ : Ev), (⟨11, 0, 1, 0, 2⟩ : Ev), (⟨7, 0, 0, 0, 2⟩ : Ev)]) 0).worker) = ((aaS ([(⟨1, 1, 0, 0, 2⟩ : Ev), (⟨3, 0, 1, 0, 0⟩ : Ev), (⟨6, 0, 0, 1, 0⟩ : Ev), (⟨11, 0, 1, 0, 2⟩ : Ev), (⟨7, 0, 0, 0, 2⟩ : Ev)]) 0).worker) then
   if ((aaS ([(⟨1, 1, 0, 0, 2⟩ : Ev), (⟨3, 0, 1, 0, 0⟩ : Ev), (⟨6, 0, 0, 1, 0⟩ : Ev), (⟨11, 0, 1, 0, 2⟩ : Ev), (⟨7, 0, 0, 0, 2⟩ : Ev)]) 0).task) = ((aaS ([(⟨1, 1, 0, 0, 2⟩ : Ev), (⟨3, 0, 1, 0, 0⟩ : Ev), (⟨6, 0, 0, 1, 0⟩ : Ev), (⟨11, 0, 1, 0, 2⟩ : Ev), (⟨7, 0, 0, 0, 2⟩ : Ev)]) 0).task) then
   if ((aaS ([(⟨1, 1, 0, 0, 2⟩ : Ev), (⟨3, 0, 1, 0, 0⟩ : Ev), (⟨6, 0, 0, 1, 0⟩ : Ev), (⟨11, 0, 1, 0, 2⟩ : Ev), (⟨7, 0, 0, 0, 2⟩ : Ev)]) 0).other) = ((aaS ([(⟨1, 1, 0, 0, 2⟩ : Ev), (⟨3, 0, 1, 0, 0⟩ : Ev), (⟨6, 0, 0, 1, 0⟩ : Ev), (⟨11, 0, 1, 0, 2⟩ : Ev), (⟨7, 0, 0, 0, 2⟩ : Ev)]) 0).other) then
   if ((aaS ([(⟨1, 1, 0, 0, 2⟩ : Ev), (⟨3, 0, 1, 0, 0⟩ : Ev), (⟨6, 0, 0, 1, 0⟩ : Ev), (⟨11, 0, 1, 0, 2⟩ : Ev), (⟨7, 0, 0, 0, 2⟩ : Ev)]) 0).level) = ((aaS ([(⟨1, 1, 0, 0, 2⟩ : Ev), (⟨3, 0, 1, 0, 0⟩ : Ev), (⟨6, 0, 0, 1, 0⟩ : Ev), (⟨11, 0, 1, 0, 2⟩ : Ev), (⟨7, 0, 0, 0, 2⟩ : Ev)]) 0).level) then
   (ag2 r3.1.1 ([aaS ([(⟨1, 1, 0, 0, 2⟩ : Ev), (⟨3, 0, 1, 0, 0⟩ : Ev), (⟨6, 0, 0, 1, 0⟩ : Ev), (⟨11, 0, 1, 0, 2⟩ : Ev), (⟨7, 0, 0, 0, 2⟩ : Ev)]) 0, aaS ([(⟨1, 1, 0, 0, 2⟩ : Ev), (⟨3, 0, 1, 0, 0⟩ : Ev), (⟨6, 0, 0, 1, 0⟩ : Ev), (⟨11, 0, 1, 0, 2⟩ : Ev), (⟨7, 0, 0, 0, 2⟩ : Ev)]) 1, aaS ([(⟨1, 1, 0, 0, 2⟩ : Ev), (⟨3, 0, 1, 0, 0⟩ : Ev), (⟨6, 0, 0, 1, 0⟩ : Ev), (⟨11, 0, 1, 0, 2⟩ : Ev), (⟨7, 0, 0, 0, 2⟩ : Ev)]) 2, aaS ([(⟨1, 1, 0, 0, 2⟩ : Ev), (⟨3, 0, 1, 0, 0⟩ : Ev), (⟨6, 0, 0, 1, 0⟩ : Ev), (⟨11, 0, 1, 0, 2⟩ : Ev), (⟨7, 0, 0, 0, 2⟩ : Ev)]) 4])).bind fun r4 =>
   some (r4.1.1, r4.1.2.1, ())
   else none
   else none
   else none
   else none
   else none
   else none
   else none
   else none
   else none
   else none
   else none
   else none
   else none
   else none
   else none
   else none
   else none
   else none
   else none
   else none
   )
   else none
   else none
   else none
  else none
 ) : Option (Int × Int × Unit)).bind fun z7 =>
 if r2.1.1 = 5 then
  if r2.1.2.1 = 0 then
   if z7.1 = 3 then
   if z7.2.1 = 6 then
   (abX).bind fun r8 =>
   (al7 r8.1.1 ([(⟨1, 1, 0, 0, 2⟩ : Ev), (⟨3, 0, 1, 0, 0⟩ : Ev), (⟨6, 0, 0, 1, 0⟩ : Ev), (⟨11, 0, 1, 0, 2⟩ : Ev), (⟨7, 0, 0, 0, 2⟩ : Ev)])).bind fun r9 =>
   (aex r9.1.1 ([(-1), 2, (-1), (-1)])).bind fun r10 =>
   if r10.1.1 = true then
   (abX).bind fun r11 =>
   (al6 r11.1.1 ([(⟨1, 1, 0, 0, 2⟩ : Ev), (⟨3, 0, 1, 0, 0⟩ : Ev), (⟨6, 0, 0, 1, 0⟩ : Ev), (⟨11, 0, 1, 0, 2⟩ : Ev), (⟨7, 0, 0, 0, 2⟩ : Ev)])).bind fun r12 =>
   (aex r12.1.1 ([2, 2, (-1), (-1)])).bind fun r13 =>
   some ((r13.1.1, ()), (()))
   else
   some ((false, ()), (()))
   else
   some ((false, ()), (()))
   else
   some ((false, ()), (()))
  else
  some ((false, ()), (()))
 else
 some ((false, ()), (()))
noncomputable abbrev aeH : Con SR1 := ⟨12, [], [.sh .b], fun x => adF ⟩
theorem ahm : CO Tryz.prog aeH := aai aah Tryz.func12 [afY, akE, ajy, afV, ajx] ⟨ai2, apu, an1, aiZ, an0, trivial⟩ [] trivial (fun _ => []) [(4, .cut [.rg 4 sI_, .rg 5 sI_] [0, 10, 11])] fun x => by kernel_rfl
noncomputable abbrev abT : Con SR1 := ⟨12, [], [.sh .b], fun _ => some ((true, ()), ())⟩
theorem aiO : adF = some ((true, ()), ()) := by
  unfold adF
  simp only [akh]
  kernel_rfl
theorem acA : CO Tryz.prog abT := ayL ahm fun x out hx => (show aeH.spec x = some out from aiO.trans hx)
noncomputable def aeh (y0 : Int) (y1 : Int) (y2 : Int) (y3 : Int) : Option ((Int × Unit) × (Unit)) :=
 if y1 < 0 then
  some (((-1), ()), (()))
 else
 if y2 ≤ y1 then
  some (((-1), ()), (()))
 else
 some ((wi (y0 + (wi (y1 * y3))), ()), (()))
noncomputable abbrev afu : Con SR1 := ⟨75, [.sh sI_, .sh sI_, .sh sI_, .sh sI_], [.sh sI_], fun x => aeh x.1 x.2.1 x.2.2.1 x.2.2.2.1⟩
theorem aiN : CO Tryz.prog afu := aai aah Tryz.func75 [] trivial [] trivial (fun _ => []) [] fun x => by kernel_rfl
noncomputable def aey (y0 : Cfg) (y1 : Int) (y2 : Int) : Option ((Int × Unit) × (Unit)) :=
 (acX y0).bind fun r1 =>
 if y0.tasks = y0.tasks then
  if y0.deque = y0.deque then
   if y0.levels = y0.levels then
   if y0.workers = y0.workers then
   (aeh (wi (r1.1.1 + (wi ((wi (y0.workers * y0.levels)) * (wi (2 + y0.deque)))))) y1 y0.tasks 5).bind fun r2 =>
   if r2.1.1 < 0 then
   some (((-1), ()), (()))
   else
   some ((wi (r2.1.1 + y2), ()), (()))
   else none
   else none
  else none
 else none
noncomputable abbrev afW : Con SR1 := ⟨48, [.val 13, .sh sI_, .sh sI_], [.sh sI_], fun x => aey x.1 x.2.1 x.2.2.1⟩
theorem ai0 : CO Tryz.prog afW := aai aah Tryz.func48 [ae3, afu] ⟨ahV, aiN, trivial⟩ [] trivial (fun _ => []) [] fun x => by kernel_rfl
noncomputable def ada (y0 : Cfg) (y1 : Int) : Option ((Int × Unit) × (Unit)) :=
 (aey y0 y1 1).bind fun r1 =>
 some ((r1.1.1, ()), (()))
noncomputable abbrev abS : Con SR1 := ⟨20, [.val 13, .sh sI_], [.sh sI_], fun x => ada x.1 x.2.1⟩
theorem acz : CO Tryz.prog abS := aai aah Tryz.func20 [afW] ⟨ai0, trivial⟩ [] trivial (fun _ => []) [] fun x => by kernel_rfl
end
end Go.Proofs.YteapeojalliebaaGreat
