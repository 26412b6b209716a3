/- What a step leaves of the tasks' states: the machines that change none. Who has a task, in the program's memory: single changes of the cells, the records and the events. Who has a task, in the program's memory: what each line that touches a task does. Who has a task: Run, a worker, the client. Who has a task: what holds of an engine between its entries. -/
import Derived.Test.YtclaldommncdbaaGreatDqaq
set_option linter.all false
namespace Go.Proofs.YtclaldommncdbaaGreat
section
open Go Go.RowKit
set_option maxRecDepth 100000
variable [Tb]
abbrev Stt (c : Cfg) (e : EnvP) (t : Int) : Int := e.gt (aaV (aao c) t)
abbrev Jo (c : Cfg) (e : EnvP) (t : Int) : Int := e.gt (acN (aao c) t)
abbrev Wt (c : Cfg) (e : EnvP) (t : Int) : Int := e.gt (aeC (aao c) t)
structure Qs (c : Cfg) (e e' : EnvP) : Prop where
  st : ∀ t, Stt c e' t = Stt c e t
  jo : ∀ t, Jo c e' t = Jo c e t
  wa : ∀ t, Wt c e' t = Wt c e t
  nx : e'.gt 0 = e.gt 0
  rc : e'.recs = e.recs
  ev : ∃ l, e'.evs = e.evs ++ l ∧ ∀ x ∈ l, 11 ≤ x.kind
def N7 (c : Cfg) (a : Int) : Prop := ckC c a ≠ 0 ∧ ckC c a ≠ 7
section
variable {c : Cfg} {e e' : EnvP} {a v k o w x : Int}
theorem auC (h : DecOk c) {t f : Int} (hf : 0 ≤ f ∧ f < 5) (hf1 : f ≠ 1) (h0 : 0 ≤ acU (aao c) t f) : ckC c (acU (aao c) t f) = 7 := by
  have e1 := ara h (t := t) hf
  have e2 := adG h (t := t) hf
  by_cases ht : 0 ≤ t ∧ t < c.tasks
  · rw [e1, if_pos ht, if_neg hf1]
  · rw [e2, if_neg ht] at h0; omega
theorem aFr (h : DecOk c) {t u f g : Int} (hf : 0 ≤ f ∧ f < 5) (hg : 0 ≤ g ∧ g < 5) (hne : f ≠ g) (h0 : 0 ≤ acU (aao c) t f) : acU (aao c) t f ≠ acU (aao c) u g := by
  have e1 := adG h (t := t) hf
  have e2 := adG h (t := u) hg
  intro k
  by_cases ht : 0 ≤ t ∧ t < c.tasks
  · rw [if_pos ht] at e1
    by_cases hu : 0 ≤ u ∧ u < c.tasks
    · rw [if_pos hu] at e2; omega
    · rw [if_neg hu] at e2; omega
  · rw [e1, if_neg ht] at h0; omega
theorem aEf (h : DecOk c) {t u f : Int} (hf : 0 ≤ f ∧ f < 5) (ht : TOk c t) (k : acU (aao c) u f = acU (aao c) t f) : u = t := by
  have e1 := adG h (t := t) hf
  have e2 := adG h (t := u) hf
  have e3 := agl h
  have h4 := h.h
  have ht : 0 ≤ t ∧ t < c.tasks := ht
  rw [if_pos ht] at e1
  by_cases hu : 0 ≤ u ∧ u < c.tasks
  · rw [if_pos hu] at e2; omega
  · rw [if_neg hu] at e2; omega
theorem aDd (h : DecOk c) (ha : N7 c a) {t f : Int} (hf : 0 ≤ f ∧ f < 5) (hf1 : f ≠ 1) : (e.pt k a v).gt (acU (aao c) t f) = e.gt (acU (aao c) t f) := by
  rw [ahl, if_neg]
  intro h'
  have := auC h (t := t) hf hf1 (by omega)
  rw [h'.1] at this
  exact ha.2 this
theorem alp (h : DecOk c) {t u f g : Int} (hf : 0 ≤ f ∧ f < 5) (hg : 0 ≤ g ∧ g < 5) (hne : f ≠ g) : (e.pt k (acU (aao c) u g) v).gt (acU (aao c) t f) = e.gt (acU (aao c) t f) := by
  rw [ahl, if_neg]
  intro h'
  exact aFr h hf hg hne (by omega) h'.1
theorem asB (h : DecOk c) {u g : Int} (hg : 0 ≤ g ∧ g < 5) (hg1 : g ≠ 1) : (e.pt k (acU (aao c) u g) v).gt 0 = e.gt 0 := by
  rw [ahl, if_neg]
  intro h'
  have := auC h (t := u) hg hg1 (by omega)
  rw [← h'.1, aeM] at this
  omega
theorem Qs.refl : Qs c e e := ⟨fun _ => rfl, fun _ => rfl, fun _ => rfl, rfl, rfl, [], by simp, fun x hx => by cases hx⟩
theorem Qs.lk : Qs c e (e.lk a) := ⟨fun _ => atZ, fun _ => atZ, fun _ => atZ, atZ, rfl, [], by show e.evs = _; simp, fun x hx => by cases hx⟩
theorem Qs.wr (h : DecOk c) (ha : N7 c a) : Qs c e (e.pt k a v) :=
  ⟨fun t => aDd h ha (f := 0) (by omega) (by omega), fun t => aDd h ha (f := 2) (by omega) (by omega), fun t => aDd h ha (f := 3) (by omega) (by omega), by
    rw [ahl, if_neg]
    intro h'
    have := ha.1
    rw [← h'.1, aeM] at this
    exact this rfl, rfl, [], by show e.evs = _; simp, fun x hx => by cases hx⟩
theorem Qs.since (h : DecOk c) {t : Int} : Qs c e (e.pt k (akB (aao c) t) v) :=
  ⟨fun t => alp h (f := 0) (by omega) (by omega) (by omega), fun t => alp h (f := 2) (by omega) (by omega) (by omega), fun t => alp h (f := 3) (by omega) (by omega) (by omega), asB h (by omega) (by omega), rfl, [], by show e.evs = _; simp, fun x hx => by cases hx⟩
theorem Qs.cas (h : DecOk c) (ha : N7 c a) : Qs c e (e.cas a o v) := Qs.wr h ha
theorem Qs.em {t l : Int} (h : Qs c e e') (hk : 11 ≤ k) : Qs c e (e'.em k w t o l) := by
  obtain ⟨m, hm, hp⟩ := h.ev
  refine ⟨h.st, h.jo, h.wa, h.nx, h.rc, m ++ [⟨k, w, t, o, l⟩], by show e'.evs ++ [_] = _; rw [hm, List.append_assoc], fun x hx => ?_⟩
  rcases List.mem_append.1 hx with hx | hx
  · exact hp x hx
  · rw [List.mem_singleton.1 hx]; exact hk
theorem aBh (h : DecOk c) (w v : Int) : N7 c (aaw (aao c) w v).top := by
  have h3 := h.q
  unfold N7
  rcases agq h w v with e | ⟨k, h1, h2, e⟩ <;> rw [e]
  · rw [afH]; omega
  · have := asO h ⟨h1, h2⟩ (j := 0) (by omega)
    rw [Int.add_zero, if_pos (by omega)] at this
    show ckC c ((aao c).queues + k * (2 + c.deque)) ≠ 0 ∧ ckC c ((aao c).queues + k * (2 + c.deque)) ≠ 7
    omega
theorem ak6 (h : DecOk c) (w v : Int) : N7 c (aaw (aao c) w v).bottom := by
  have h3 := h.q
  unfold N7
  rcases agq h w v with e | ⟨k, h1, h2, e⟩ <;> rw [e]
  · rw [afH]; omega
  · have := asO h ⟨h1, h2⟩ (j := 1) (by omega)
    rw [if_pos (by omega)] at this
    show ckC c ((aao c).queues + k * (2 + c.deque) + 1) ≠ 0 ∧ ckC c ((aao c).queues + k * (2 + c.deque) + 1) ≠ 7
    omega
theorem aCT (h : DecOk c) (w v : Int) {b : Int} (hb : 0 ≤ b) : N7 c (agC (aaw (aao c) w v) b) := by
  have := anK h w v hb
  unfold N7; omega
theorem aqK (h : DecOk c) {i : Int} : N7 c (aeF (aao c) i) := by have := anJ h (i := i); unfold N7; omega
theorem aoB (h : DecOk c) {w : Int} : N7 c (aaI (aao c) w) := by have := asV h (w := w); unfold N7; omega
theorem aAk (h : DecOk c) {w : Int} : N7 c (afO (aao c) w) := by have := avK h (w := w); unfold N7; omega
theorem ajl (h : DecOk c) {t : Int} : N7 c (abM (aao c) t) := by have := afw h (t := t); unfold N7; omega
theorem aoA (h : DecOk c) {a : Int} (ha : 1 ≤ a ∧ a ≤ 3) : N7 c a := by have := avD h ha; unfold N7; omega
theorem aqL (h : MI c e) : N7 c (ag4 w e) := by have := arR (w := w) h; unfold N7; omega
theorem aCS {j : Int} (h : MI c e) : N7 c (alJ v j e) := by have := auv (v := v) (j := j) h; unfold N7; omega
theorem aCI (h : MI c e) (s : OPushS) (hs : amE s) : Qs c e (aeS (aaw (aao c) w v) x e s).2 := by
  cases s with
  | l1 => exact .lk
  | l2 b => exact .lk
  | l3 b => exact .wr h.d (aCT h.d _ _ hs)
  | l4 b => exact .wr h.d (ak6 h.d _ _)
theorem aEF (h : MI c e) (s : OPopS) : Qs c e (anj (aaw (aao c) w v) e s).2 := by
  cases s with
  | l1 => exact .lk
  | l2 b => exact .lk
  | l3 b t => exact .wr h.d (ak6 h.d _ _)
  | l4 b t => exact .lk
  | l5 b t => exact .lk
  | l6 b t => exact .cas h.d (aBh h.d _ _)
  | l7 b t => exact .wr h.d (ak6 h.d _ _)
  | l8 b t => exact .lk
  | l9 b t => exact .wr h.d (ak6 h.d _ _)
theorem awP (h : MI c e) (s : StealS) : Qs c e (ag1 (aaw (aao c) w v) e s).2 := by
  cases s with
  | l1 => exact .lk
  | l2 b => exact .lk
  | l3 t => exact .lk
  | l4 t u => exact .cas h.d (aBh h.d _ _)
theorem ato {a b : Int} (h : MI c e) (s : ResetS) : Qs c e (afo (aaI (aao c) a) b (aaw (aao c) w v) e s).2 := by
  cases s with
  | l1 => exact .wr h.d (aoB h.d)
  | l2 => exact .lk
  | l3 x => exact .lk
  | l4 x => exact .wr h.d (aoB h.d)
theorem aGc {a b : Int} (h : MI c e) : Qs c e (aCd (aaI (aao c) a) b e) := .wr h.d (aoB h.d)
theorem ast {o : Int} (h : MI c e) : Qs c e (atV o e) := .cas h.d (aoA h.d (by omega))
theorem ayb (h : MI c e) : Qs c e (asF e) := .wr h.d (aoA h.d (by omega))
theorem avm {d t : Int} (h : MI c e) (s : InsertS) : Qs c e (acO d t e s).2 := by
  cases s with
  | l1 => exact .lk
  | l2 n => exact .wr h.d (aoA h.d (by omega))
  | l3 n i k x => exact .lk
  | l4 n i k x =>
    unfold acO
    rw [h.l]
    exact .wr h.d (aqK h.d)
  | l5 n i k x =>
    unfold acO
    rw [h.l]
    exact .wr h.d (aqK h.d)
  | l6 n i k x => exact .wr h.d (aoA h.d (by omega))
theorem azR (h : MI c e) (s : RemoveS) : Qs c e (ada w e s).2 := by
  cases s with
  | l1 => exact .lk
  | l2 n => exact .lk
  | l3 n x => exact .lk
  | l4 n x y => exact (Qs.wr h.d (aoA h.d (by omega))).em (by omega)
  | l5 n i d x y z => exact .lk
  | l6 n i d x y z => exact .lk
  | l7 n i d x y z =>
    unfold ada
    rw [h.l]
    exact .wr h.d (aqK h.d)
  | l8 n i d x y z =>
    unfold ada
    rw [h.l]
    exact .wr h.d (aqK h.d)
theorem awX (h : MI c e) (s : SleepS) : Qs c e (afn w e s).2 := by
  cases s with
  | l1 => exact .lk
  | l2 ep => exact .wr h.d (aqL h)
  | l3 ep => exact .lk
  | l4 ep v =>
    simp only [afn]
    split
    · exact .lk
    · split
      · exact Qs.lk.em (by omega)
      · exact .lk
  | l5 ep v s =>
    simp only [afn]
    split
    · exact Qs.lk.em (by omega)
    · split
      · exact Qs.lk.em (by omega)
      · exact .lk
  | l6 _ _ _ => exact .wr h.d (aqL h)
  | l7 _ _ _ => exact .wr h.d (aqL h)
theorem arI (h : MI c e) (s : WakeS) : Qs c e (aec w v e s).2 := by
  cases s with
  | l1 j => exact .lk
  | l2 j x => exact .wr h.d (aCS h)
  | l3 j x =>
    show Qs c e ((e.pt 6 (afO e.l x) _).em 18 w 0 x 0)
    rw [h.l]
    exact (Qs.wr h.d (aAk h.d)).em (by omega)
theorem axm (s : ProbeS) : Qs c e (aiy w e s).2 := by
  have g : ∀ s i bm, Qs c e (ah4 w e s i bm).2 := fun s i bm => by
    unfold ah4
    split
    · exact .refl
    · simp only
      split
      · exact .lk
      · exact .lk
  cases s with
  | new => exact g _ _ _
  | run s i bm => exact g _ _ _
theorem aCt {t : Int} (h : MI c e) (s : RaiseS) : Qs c e (aed w t v e s).2 := by
  unfold aed
  rw [h.l]
  split
  · exact .refl
  · cases s with
    | l1 q => exact .lk
    | l2 q =>
      simp only
      split
      · exact (Qs.cas h.d (ajl h.d)).em (by omega)
      · exact .cas h.d (ajl h.d)
theorem aoE (h : MI c e) (s : LPushS) (hs : ahZ s) : Qs c e (ab2 w v x e s).2 := by
  have g : ∀ s, amE s → Qs c e (match aeS (aaw e.l w v) x e s with
      | (.go s, e') => (Rs.go (LPushS.push s), e')
      | (.fin c _, e') => (if c = 3 then .fin 3 0 else .go .set, e')).2 := fun s hs => by
    have := aCI (w := w) (v := v) (x := x) h s hs
    rw [h.l]
    revert this
    rcases aeS (aaw (aao c) w v) x e s with ⟨r, e'⟩
    intro this
    cases r <;> exact this
  cases s with
  | new => exact g .l1 trivial
  | push s => exact g _ hs
  | set =>
    show Qs c e (aCd (aaI e.l w) v e)
    rw [h.l]
    exact aGc h
theorem aBk (h : MI c e) (s : LPopS) : Qs c e (agT w e s).2 := by
  cases s with
  | l1 v => exact .lk
  | l2 v s =>
    have := aEF (w := w) (v := v) h s
    simp only [agT]
    rw [h.l]
    revert this
    rcases anj (aaw (aao c) w v) e s with ⟨r, e'⟩
    intro this
    cases r <;> exact this
  | l3 v s =>
    have := ato (w := w) (v := v) (a := w) (b := v) h s
    simp only [agT]
    rw [h.l]
    revert this
    rcases afo (aaI (aao c) w) v (aaw (aao c) w v) e s with ⟨r, e'⟩
    intro this
    cases r <;> exact this
theorem aD9 (h : MI c e) (s : WalkS) (hs : apk c v s) : Qs c e (afD w v e s).2 := by
  have g : ∀ t s, Qs c e (match aed w t v e s with
      | (.go s, e') => (Rs.go (WalkS.raise t s), e')
      | (.fin c _, e') => (.go (if c = 1 then .l2 t else .l4 t), e')).2 := fun t s => by
    have := aCt (w := w) (v := v) (t := t) h s
    revert this
    rcases aed w t v e s with ⟨r, e'⟩
    intro this
    cases r <;> exact this
  cases s with
  | l1 t =>
    simp only [afD]
    split
    · exact .refl
    · exact g t _
  | raise t s => exact g t s
  | l2 t => exact .lk
  | push t s =>
    have := aoE (w := w) (v := v) (x := t) h s hs.2
    simp only [afD]
    revert this
    rcases ab2 w v t e s with ⟨r, e'⟩
    intro this
    cases r with
    | go s => exact this
    | fin c0 v0 =>
      show Qs c e (if c0 = 3 then e'.em 19 w t 0 v else e')
      split
      · exact this.em (by omega)
      · exact this
  | l4 t => exact .lk
theorem awL {t : Int} (h : MI c e) (s : SweepS) (hs : arx c s) : Qs c e (abp w t e s).2 := by
  cases s with
  | l1 =>
    simp only [abp]
    split
    · exact .refl
    · exact .lk
  | l2 => exact .lk
  | l3 => exact .lk
  | l4 q =>
    simp only [abp]
    rw [h.l]
    split
    · exact (Qs.cas h.d (ajl h.d)).em (by omega)
    · exact .cas h.d (ajl h.d)
  | l5 q =>
    simp only [abp]
    rw [h.l]
    exact .since h.d
  | l6 q s =>
    have := aoE (w := w) (v := wi (wi q + 1)) (x := t) h s hs
    simp only [abp]
    revert this
    rcases ab2 w (wi (wi q + 1)) t e s with ⟨r, e'⟩
    intro this
    cases r with
    | go s => exact this
    | fin c0 v0 =>
      show Qs c e (if c0 = 3 then e'.em 19 w t 0 _ else e')
      split
      · exact this.em (by omega)
      · exact this
theorem ayq (h : MI c e) (d : DrainS) (hd : as7 c d) : Qs c e (abJ w e d).2 := by
  obtain ⟨x, dir, p, last, cnt, k⟩ := d
  obtain ⟨h1, h2⟩ := hd
  cases k with
  | l1 => exact .lk
  | l2 => exact ast h
  | l3 s =>
    have := azR (w := w) h s
    simp only [abJ]
    revert this
    rcases ada w e s with ⟨r, e'⟩
    intro this
    cases r <;> exact this
  | l4 => exact .lk
  | l5 s =>
    have := aoE (w := w) (v := p) (x := x) h s h2.2
    simp only [abJ]
    revert this
    rcases ab2 w p x e s with ⟨r, e'⟩
    intro this
    cases r <;> exact this
  | l6 => exact ayb h
  | l7 s =>
    have := arI (w := w) (v := last) h s
    simp only [abJ]
    revert this
    rcases aec w last e s with ⟨r, e'⟩
    intro this
    cases r <;> exact this
end
def ac2 (p : Int → Bool) (l : List Ev) (t : Int) : Nat := l.countP fun x => decide (x.task = t) && p x.kind
def kKn (k : Int) : Bool := decide (k = 1 ∨ k = 3)
def kSn (k : Int) : Bool := decide (k = 5)
def kFn (k : Int) : Bool := decide (k = 10)
def rcw (e : EnvP) (t : Int) : Int := if 0 ≤ t then (e.rc t).waiting else -1
def rcs (e : EnvP) (t : Int) : Bool := if 0 ≤ t then (e.rc t).started else false
abbrev Vw := List Int × Ph
def ajx (c : Cfg) (e : EnvP) (ts : Int → Ts) (vs : Nat → Vw) : Ab :=
  ⟨c.tasks, e.gt 0, Stt c e, Jo c e, rcw e, rcs e, ac2 kKn e.evs, ac2 kSn e.evs, ac2 kFn e.evs, ts, fun m => (vs m).1, fun m => (vs m).2⟩
structure LI (c : Cfg) (e : EnvP) (vs : Nat → Vw) : Prop where
  rl : (e.recs.length : Int) = c.tasks
  la : ∃ ts, LA (ajx c e ts vs)
def Lw (c : Cfg) (e e' : EnvP) (v v' : Vw) : Prop := ∀ m vs, vs m = v → LI c e vs → LI c e' (ail vs m v')
def Mi (x : Ev) : Prop := x.kind ≠ 1 ∧ x.kind ≠ 3 ∧ x.kind ≠ 5 ∧ x.kind ≠ 10
theorem anU {α : Type} {f : Nat → α} {m : Nat} {v : α} (h : f m = v) : ail f m v = f := funext fun j => by
  unfold ail; split
  · rename_i k; rw [k, h]
  · rfl
theorem avU {α : Type} {f : Nat → α} {m : Nat} {v w : α} : ail (ail f m v) m w = ail f m w := funext fun j => by
  unfold ail; split <;> rfl
theorem ad9 {p : Int → Bool} {l k : List Ev} {t : Int} : ac2 p (l ++ k) t = ac2 p l t + ac2 p k t := List.countP_append
theorem avC {p : Int → Bool} {l : List Ev} {t : Int} (h : ∀ x ∈ l, x.task = t → p x.kind = false) : ac2 p l t = 0 := by
  unfold ac2
  rw [List.countP_eq_zero]
  intro x hx
  by_cases k : x.task = t
  · rw [h x hx k]; simp
  · simp [k]
theorem aeL {p : Int → Bool} {k w t o v u : Int} : ac2 p [⟨k, w, t, o, v⟩] u = if t = u ∧ p k = true then 1 else 0 := by
  unfold ac2
  rw [List.countP_cons, List.countP_nil]
  simp
section
variable {c : Cfg} {e e1 e' : EnvP} {v v1 v' : Vw}
theorem Lw.trans (h1 : Lw c e e1 v v1) (h2 : Lw c e1 e' v1 v') : Lw c e e' v v' := fun m vs hv h => by
  have := h2 m _ acT (h1 m vs hv h)
  rw [avU] at this
  exact this
structure Of1 (c : Cfg) (e e' : EnvP) (t : Int) : Prop where
  st : ∀ x, x ≠ t → Stt c e' x = Stt c e x
  jo : ∀ x, Jo c e' x = Jo c e x
  nx : e'.gt 0 = e.gt 0
  rl : e'.recs.length = e.recs.length
  rc : ∀ x, x ≠ t → 0 ≤ x → e'.rc x = e.rc x
  ev : ∃ l, e'.evs = e.evs ++ l ∧ ∀ y ∈ l, y.task = t ∨ Mi y
theorem aE9 {x : Ev} (h : Mi x) : kKn x.kind = false := by unfold kKn; rw [decide_eq_false_iff_not]; unfold Mi at h; omega
theorem aE7 {x : Ev} (h : Mi x) : kSn x.kind = false := by unfold kSn; rw [decide_eq_false_iff_not]; unfold Mi at h; omega
theorem aFa {x : Ev} (h : Mi x) : kFn x.kind = false := by unfold kFn; rw [decide_eq_false_iff_not]; unfold Mi at h; omega
theorem aFC {p : Int → Bool} (hp : ∀ x, Mi x → p x.kind = false) {l k : List Ev} (hk : ∀ x ∈ k, Mi x) {t : Int} : ac2 p (l ++ k) t = ac2 p l t := by
  rw [ad9, avC fun x hx _ => hp x (hk x hx), Nat.add_zero]
theorem aBc {t : Int} {s0 s : Ts} {l : List Int} {p : Ph} (ht : TOk c t) (o : Of1 c e e' t)
    (H : ∀ (a : Ab) (m : Nat), LA a → a.T = c.tasks → a.S = Stt c e → a.J = Jo c e → a.wa = rcw e → a.st = rcs e → a.kn = ac2 kKn e.evs → a.sn = ac2 kSn e.evs → a.fn = ac2 kFn e.evs → a.hd m = v.1 → a.ph m = v.2 →
      ∃ s : Ts, (∀ m', (a.ts t).mine = some m' → m' = m) ∧ (∀ u, a.ts t = .wait u → a.ok u ∧ a.ts u = .fg m) ∧ ((a.ts t).over → s.over) ∧
        Cl a.N t s (Stt c e' t) (rcw e' t) (Jo c e t) (rcs e' t) (ac2 kKn e'.evs t) (ac2 kSn e'.evs t) (ac2 kFn e'.evs t) ∧
        (∀ x ∈ l, (x = t ∧ s = .run m) ∨ (x ≠ t ∧ x ∈ a.hd m)) ∧ l.Nodup ∧ (∀ m', s = .fin m' → m' = m ∧ p = .f t) ∧ (∀ x, x ≠ t → a.ph m ≠ .f x) ∧
        Ab.phOk { a with S := upd a.S t (Stt c e' t), wa := upd a.wa t (rcw e' t), st := upd a.st t (rcs e' t), kn := upd a.kn t (ac2 kKn e'.evs t), sn := upd a.sn t (ac2 kSn e'.evs t), fn := upd a.fn t (ac2 kFn e'.evs t), ts := upd a.ts t s } m l p) :
    Lw c e e' v (l, p) := fun m vs hv h => by
  obtain ⟨rl, ts, la⟩ := h
  obtain ⟨s, k1, k2, k3, k4, k5, k6, k7, k8, k9⟩ := H _ m la rfl rfl rfl rfl rfl rfl rfl rfl (by show (vs m).1 = _; rw [hv]) (by show (vs m).2 = _; rw [hv])
  have := la.put (t := t) ht k1 k2 k3 k4 k5 k6 k7 k8 k9
  refine ⟨by rw [o.rl]; exact rl, upd ts t s, ?_⟩
  obtain ⟨k, hk, hm⟩ := o.ev
  have ec : ∀ {q : Int → Bool}, (∀ x, Mi x → q x.kind = false) → ∀ x, upd (ac2 q e.evs) t (ac2 q e'.evs t) x = ac2 q e'.evs x := fun {q} hq x => by
    by_cases hx : x = t
    · subst hx; exact abf
    · rw [aba hx, hk, ad9, avC (l := k) fun y hy e1 => ?_, Nat.add_zero]
      rcases hm y hy with e2 | e2
      · exact absurd (e1.symm.trans e2) hx
      · exact hq y e2
  have q1 : upd (Stt c e) t (Stt c e' t) = Stt c e' := funext fun x => by
    by_cases hx : x = t
    · subst hx; exact abf
    · rw [aba hx, o.st x hx]
  have q2 : upd (rcw e) t (rcw e' t) = rcw e' := funext fun x => by
    by_cases hx : x = t
    · subst hx; exact abf
    · rw [aba hx]; unfold rcw; split
      · rename_i h0; rw [o.rc x hx h0]
      · rfl
  have q3 : upd (rcs e) t (rcs e' t) = rcs e' := funext fun x => by
    by_cases hx : x = t
    · subst hx; exact abf
    · rw [aba hx]; unfold rcs; split
      · rename_i h0; rw [o.rc x hx h0]
      · rfl
  have q4 : Jo c e' = Jo c e := funext o.jo
  have e1 : ajx c e' (upd ts t s) (ail vs m (l, p)) = { ajx c e ts vs with S := upd (Stt c e) t (Stt c e' t), wa := upd (rcw e) t (rcw e' t), st := upd (rcs e) t (rcs e' t), kn := upd (ac2 kKn e.evs) t (ac2 kKn e'.evs t), sn := upd (ac2 kSn e.evs) t (ac2 kSn e'.evs t), fn := upd (ac2 kFn e.evs) t (ac2 kFn e'.evs t), ts := upd ts t s, hd := ail (fun m => (vs m).1) m l, ph := ail (fun m => (vs m).2) m p } := by
    rw [q1, q2, q3, funext (ec fun x => aE9), funext (ec fun x => aE7), funext (ec fun x => aFa)]
    unfold ajx
    rw [q4, o.nx]
    congr 1
    · funext j; unfold ail; split <;> rfl
    · funext j; unfold ail; split <;> rfl
  rw [e1]
  exact this
theorem atk (h1 : ∀ t, Stt c e' t = Stt c e t) (h2 : ∀ t, Jo c e' t = Jo c e t) (h3 : e'.gt 0 = e.gt 0) (h4 : e'.recs = e.recs) (h5 : ∃ l, e'.evs = e.evs ++ l ∧ ∀ x ∈ l, Mi x) (ts : Int → Ts) (vs : Nat → Vw) : ajx c e' ts vs = ajx c e ts vs := by
  obtain ⟨l, hl, hm⟩ := h5
  have e1 : Stt c e' = Stt c e := funext h1
  have e2 : Jo c e' = Jo c e := funext h2
  have e3 : rcw e' = rcw e := funext fun t => by unfold rcw EnvP.rc; rw [h4]
  have e4 : rcs e' = rcs e := funext fun t => by unfold rcs EnvP.rc; rw [h4]
  have e5 : ∀ {q : Int → Bool}, (∀ x, Mi x → q x.kind = false) → ac2 q e'.evs = ac2 q e.evs := fun {q} hq => funext fun t => by rw [hl, aFC hq hm]
  unfold ajx
  rw [e1, e2, h3, e3, e4, e5 fun x => aE9, e5 fun x => aE7, e5 fun x => aFa]
theorem Qs.mi (h : Qs c e e') : ∃ l, e'.evs = e.evs ++ l ∧ ∀ x ∈ l, Mi x := by
  obtain ⟨l, hl, hm⟩ := h.ev
  exact ⟨l, hl, fun x hx => by have := hm x hx; unfold Mi; omega⟩
theorem aul {ts : Int → Ts} {vs : Nat → Vw} {m : Nat} {w : Vw} : ajx c e ts (ail vs m w) = { ajx c e ts vs with hd := ail (fun m => (vs m).1) m w.1, ph := ail (fun m => (vs m).2) m w.2 } := by
  unfold ajx
  congr 1
  · funext j; unfold ail; split <;> rfl
  · funext j; unfold ail; split <;> rfl
theorem atg {l : List Int} {p : Ph} (hl : ∀ x ∈ l, x ∈ v.1) (hn : v.1.Nodup → l.Nodup) (hf : ∀ x, v.2 = .f x → p = .f x)
    (H : ∀ (a : Ab) (m : Nat), LA a → a.T = c.tasks → a.J = Jo c e → a.wa = rcw e → a.hd m = v.1 → a.ph m = v.2 → a.phOk m l p) : Lw c e e v (l, p) := fun m vs hv h => by
  obtain ⟨rl, ts, la⟩ := h
  have e1 : (ajx c e ts vs).hd m = v.1 := by show (vs m).1 = _; rw [hv]
  have e2 : (ajx c e ts vs).ph m = v.2 := by show (vs m).2 = _; rw [hv]
  refine ⟨rl, ts, ?_⟩
  rw [aul]
  exact la.step (fun x hx => by rw [e1]; exact hl x hx) (hn (by rw [← e1]; exact la.nd m)) (fun x hx => hf x (by rw [← e2]; exact hx)) (H _ m la rfl rfl rfl e1 e2)
theorem Lw.env {e0 : EnvP} (h : ∀ ts vs, ajx c e' ts vs = ajx c e ts vs) (hr : e'.recs.length = e.recs.length) (hv : Lw c e0 e v v') : Lw c e0 e' v v' := fun m vs hm hl => by
  obtain ⟨rl, ts, la⟩ := hv m vs hm hl
  exact ⟨by rw [hr]; exact rl, ts, by rw [h]; exact la⟩
theorem Lw.refl : Lw c e e v v := fun m vs hv h => by rw [anU hv]; exact h
theorem Lw.q (h : Qs c e e') (hv : Lw c e e v v') : Lw c e e' v v' := hv.env (atk h.st h.jo h.nx h.rc h.mi) (by rw [h.rc])
theorem Lw.qr {e0 : EnvP} (h : Qs c e e') (hv : Lw c e0 e v v') : Lw c e0 e' v v' := hv.env (atk h.st h.jo h.nx h.rc h.mi) (by rw [h.rc])
theorem Lw.em {e0 : EnvP} {k w t o x : Int} (hk : k ≠ 1 ∧ k ≠ 3 ∧ k ≠ 5 ∧ k ≠ 10) (hv : Lw c e0 e v v') : Lw c e0 (e.em k w t o x) v v' :=
  Lw.env (e := e) (e' := e.em k w t o x) (atk (fun _ => rfl) (fun _ => rfl) rfl rfl ⟨[⟨k, w, t, o, x⟩], rfl, fun y hy => by rw [List.mem_singleton.1 hy]; exact hk⟩) rfl hv
theorem Lw.drop {l : List Int} (hl : ∀ x ∈ l, x ∈ v.1) (hn : v.1.Nodup → l.Nodup) (hf : ∀ x, v.2 ≠ .f x) : Lw c e e v (l, .n) :=
  atg hl hn (fun x h => absurd h (hf x)) fun a m la hT hJ hw hh hp => trivial
end
section
variable {c : Cfg} {e e1 e' : EnvP} {v v1 v' : Vw} {t u k x : Int}
theorem aBL (h : DecOk c) {f : Int} (hf : 0 ≤ f ∧ f < 5) (ht : TOk c t) : 0 ≤ acU (aao c) t f ∧ acU (aao c) t f < aaP c := by
  have e1 := adG h (t := t) hf
  have e3 := agl h
  have h4 := h.h
  have ht : 0 ≤ t ∧ t < c.tasks := ht
  rw [e1, if_pos ht]
  unfold aaP
  omega
theorem aqZ (h : DecOk c) (hl : (e.m.cells.length : Int) = aaP c) {f : Int} (hf : 0 ≤ f ∧ f < 5) (ht : TOk c t) : (e.pt k (acU (aao c) t f) x).gt (acU (aao c) t f) = x := by
  have := aBL h hf ht
  rw [ahl, if_pos ⟨rfl, by omega⟩]
theorem at3 (h : DecOk c) {f : Int} (hf : 0 ≤ f ∧ f < 5) (ht : TOk c t) (hu : u ≠ t) : (e.pt k (acU (aao c) t f) x).gt (acU (aao c) u f) = e.gt (acU (aao c) u f) := by
  rw [ahl, if_neg]
  intro h'
  exact hu (aEf h hf ht h'.1)
theorem amK (h : DecOk c) (hl : (e.m.cells.length : Int) = aaP c) (ht : TOk c t) : Stt c (e.pt k (aaV (aao c) t) x) t = x := aqZ h hl (f := 0) (by omega) ht
theorem aso (h : DecOk c) (ht : TOk c t) : Of1 c e (e.pt k (aaV (aao c) t) x) t :=
  ⟨fun u hu => at3 h (f := 0) (by omega) ht hu, fun u => alp h (f := 2) (by omega) (by omega) (by omega), asB h (by omega) (by omega), rfl, fun _ _ _ => rfl, [], by show e.evs = _; simp, fun y hy => by cases hy⟩
theorem aoy : Of1 c e e t := ⟨fun _ _ => rfl, fun _ => rfl, rfl, rfl, fun _ _ _ => rfl, [], by simp, fun y hy => by cases hy⟩
theorem Of1.em {w o y : Int} (h : Of1 c e e' t) (hk : u = t ∨ (k ≠ 1 ∧ k ≠ 3 ∧ k ≠ 5 ∧ k ≠ 10)) : Of1 c e (e'.em k w u o y) t := by
  obtain ⟨m, hm, hp⟩ := h.ev
  refine ⟨h.st, h.jo, h.nx, h.rl, h.rc, m ++ [⟨k, w, u, o, y⟩], by show e'.evs ++ [_] = _; rw [hm, List.append_assoc], fun x hx => ?_⟩
  rcases List.mem_append.1 hx with hx | hx
  · exact hp x hx
  · rw [List.mem_singleton.1 hx]; exact hk
theorem axf {r : RecP} (ht : 0 ≤ t) (hx : x ≠ t) (h0 : 0 ≤ x) : (e.pr t r).rc x = e.rc x := by
  show atL _ (e.recs.set t.toNat r) x = atL _ e.recs x
  unfold atL
  rw [List.getElem?_set_ne (by omega)]
theorem apD {r : RecP} (ht : TOk c t) (hr : (e.recs.length : Int) = c.tasks) : (e.pr t r).rc t = r := by
  have ht : 0 ≤ t ∧ t < c.tasks := ht
  exact alE (by omega)
theorem Of1.pr {r : RecP} (h : Of1 c e e' t) (ht : TOk c t) : Of1 c e (e'.pr t r) t :=
  ⟨h.st, h.jo, h.nx, by show (e'.recs.set _ _).length = _; rw [List.length_set]; exact h.rl, fun x hx h0 => by rw [axf ht.1 hx h0]; exact h.rc x hx h0, h.ev⟩
theorem Of1.wt (h : Of1 c e e' t) (hd : DecOk c) : Of1 c e (e'.pt k (aeC (aao c) u) x) t :=
  ⟨fun y hy => by rw [show Stt c (e'.pt k (aeC (aao c) u) x) y = Stt c e' y from alp hd (f := 0) (by omega) (by omega) (by omega)]; exact h.st y hy,
   fun y => by rw [show Jo c (e'.pt k (aeC (aao c) u) x) y = Jo c e' y from alp hd (f := 2) (by omega) (by omega) (by omega)]; exact h.jo y,
   by rw [show (e'.pt k (aeC (aao c) u) x).gt 0 = e'.gt 0 from asB hd (by omega) (by omega)]; exact h.nx, h.rl, h.rc, h.ev⟩
theorem azV {s0 s : Nat → Ts} {l : List Int} {p : Ph} (ht : TOk c t) (o : Of1 c e e' t)
    (h0 : ∀ (a : Ab) (m : Nat), LA a → a.T = c.tasks → a.S = Stt c e → a.J = Jo c e → a.wa = rcw e → a.hd m = v.1 → a.ph m = v.2 → a.ts t = s0 m)
    (m0 : ∀ m m', (s0 m).mine = some m' → m' = m) (w0 : ∀ m u, s0 m ≠ .wait u) (f0 : ∀ m, s0 m ≠ .fresh) (f1 : ∀ m, s m ≠ .fresh) (ho : ∀ m, (s0 m).over → (s m).over)
    (hsn : (ac2 kSn e.evs t = if rcs e t = true then 1 else 0) → ac2 kSn e'.evs t = if rcs e' t = true then 1 else 0)
    (hk : ∀ m, aGV (s0 m) (Stt c e t) (rcw e t) (Jo c e t) (rcs e t) (ac2 kKn e.evs t) (ac2 kFn e.evs t) → aGV (s m) (Stt c e' t) (rcw e' t) (Jo c e t) (rcs e' t) (ac2 kKn e'.evs t) (ac2 kFn e'.evs t))
    (hl : ∀ m, v.1.Nodup → (t ∈ v.1 → s0 m = .run m) → ∀ x ∈ l, (x = t ∧ s m = .run m) ∨ (x ≠ t ∧ x ∈ v.1)) (hn : ∀ m, v.1.Nodup → (t ∈ v.1 → s0 m = .run m) → l.Nodup)
    (h4 : ∀ m m', s m = .fin m' → m' = m ∧ p = .f t) (h5 : ∀ x, x ≠ t → v.2 ≠ .f x)
    (hp : ∀ (a : Ab) (m : Nat), LA a → a.T = c.tasks → a.J = Jo c e → a.wa = rcw e → a.hd m = v.1 → a.ph m = v.2 → a.ts t = s0 m →
      Ab.phOk { a with S := upd a.S t (Stt c e' t), wa := upd a.wa t (rcw e' t), st := upd a.st t (rcs e' t), kn := upd a.kn t (ac2 kKn e'.evs t), sn := upd a.sn t (ac2 kSn e'.evs t), fn := upd a.fn t (ac2 kFn e'.evs t), ts := upd a.ts t (s m) } m l p) :
    Lw c e e' v (l, p) := aBc (s0 := .done) (s := .done) ht o fun a m la hT hS hJ hw hst hkn hsn' hfn hh hph => by
  have e0 := h0 a m la hT hS hJ hw hh hph
  have hok : a.ok t := ⟨ht.1, by rw [hT]; exact ht.2⟩
  obtain ⟨c1, c2, c3⟩ := la.cl t hok
  rw [e0, hS, hw, hJ, hst, hkn, hfn] at c3
  rw [hsn', hst] at c1
  rw [e0] at c2
  have q1 : v.1.Nodup := by rw [← hh]; exact la.nd m
  have q2 : t ∈ v.1 → s0 m = .run m := fun k => by rw [← e0]; rw [← hh] at k; exact (la.hd m t k).2
  refine ⟨s m, fun m' k => m0 m m' (by rw [← e0]; exact k), fun u k => absurd (e0.symm.trans k) (w0 m u), fun k => ho m (by rw [← e0]; exact k), ⟨hsn c1, ⟨fun k => absurd k (f1 m), fun k => absurd (c2.2 k) (f0 m)⟩, hk m c3⟩, fun x hx => ?_, hn m q1 q2, h4 m, fun x hx k => h5 x hx (hph.symm.trans k), hp a m la hT hJ hw hh hph e0⟩
  rw [hh]; exact hl m q1 q2 x hx
section
variable {l : List Int}
theorem amf (h : (l ++ [t]).Nodup) : l.Nodup ∧ t ∉ l := by
  rw [List.nodup_append] at h
  exact ⟨h.1, fun k => h.2.2 t k t (List.mem_singleton.2 rfl) rfl⟩
theorem aw3 {m : Nat} {a : Ab} (la : LA a) (hh : a.hd m = l) (ht : t ∈ l) : a.ts t = .run m := (la.hd m t (by rw [hh]; exact ht)).2
theorem okA {a : Ab} (hT : a.T = c.tasks) (ht : TOk c t) : a.ok t := ⟨ht.1, by rw [hT]; exact ht.2⟩
theorem axX {x : Int} (hn : (l ++ [t]).Nodup) (hx : x ∈ l) : x ≠ t ∧ x ∈ l ++ [t] := ⟨fun k => (amf hn).2 (k ▸ hx), List.mem_append_left _ hx⟩
theorem aDy (hd : DecOk c) (hl : (e.m.cells.length : Int) = aaP c) (ht : TOk c t) : Lw c e (e.pt k (aaV (aao c) t) 4) (l ++ [t], .n) (l, .f t) := by
  refine azV (s0 := fun m => .run m) (s := fun m => .fin m) ht (aso hd ht) (fun a m la hT hS hJ hw hh hp => aw3 la hh (by simp)) (fun m m' k => (Option.some.inj k).symm) (fun m u k => by cases k) (fun m k => by cases k) (fun m k => by cases k) (fun m k => k) (fun k => k)
    (fun m k => ?_) (fun m hn _ x hx => .inr (axX hn hx)) (fun m hn _ => (amf hn).1) (fun m m' k => ⟨(Ts.fin.inj k).symm, rfl⟩) (fun x hx k => by cases k) fun a m la hT hJ hw hh hp e0 => ⟨okA hT ht, abf⟩
  exact ⟨amK hd hl ht, k.2⟩
theorem aCY (hd : DecOk c) (hl : (e.m.cells.length : Int) = aaP c) (ht : TOk c t) : Lw c e (e.pt k (aaV (aao c) t) 3) (l ++ [t], .j t u) (l, .b t u) := by
  refine azV (s0 := fun m => .run m) (s := fun m => .bm m) ht (aso hd ht) (fun a m la hT hS hJ hw hh hp => aw3 la hh (by simp)) (fun m m' k => (Option.some.inj k).symm) (fun m u k => by cases k) (fun m k => by cases k) (fun m k => by cases k) (fun m k => k) (fun k => k)
    (fun m k => ?_) (fun m hn _ x hx => .inr (axX hn hx)) (fun m hn _ => (amf hn).1) (fun m m' k => by cases k) (fun x hx k => by cases k) fun a m la hT hJ hw hh hp e0 => ⟨okA hT ht, abf, ?_⟩
  · exact ⟨amK hd hl ht, k.2⟩
  · have := la.ph m
    rw [hp] at this
    simp only [abf]
    have h2 : a.wa t = u := this.2
    rw [hw] at h2
    exact h2
theorem aCX : Lw c e e (l, .b t u) (l, .r t) :=
  atg (fun x hx => hx) (fun h => h) (fun x k => by cases k) fun a m la hT hJ hw hh hp => by
    have := la.ph m
    rw [hp] at this
    exact ⟨this.1, this.2.1⟩
theorem aDK (hd : DecOk c) (hl : (e.m.cells.length : Int) = aaP c) (ht : TOk c t) : Lw c e (e.pt k (aaV (aao c) t) 2) (l, .r t) (l ++ [t], .n) := by
  refine azV (s0 := fun m => .bm m) (s := fun m => .run m) ht (aso hd ht) (fun a m la hT hS hJ hw hh hp => ?_) (fun m m' k => (Option.some.inj k).symm) (fun m u k => by cases k) (fun m k => by cases k) (fun m k => by cases k) (fun m k => k) (fun k => k)
    (fun m k => ?_) (fun m hn q x hx => ?_) (fun m hn q => ?_) (fun m m' k => by cases k) (fun x hx k => by cases k) fun a m la hT hJ hw hh hp e0 => trivial
  · have := la.ph m
    rw [hp] at this
    exact this.2
  · exact ⟨amK hd hl ht, k.2⟩
  · rcases List.mem_append.1 hx with hx | hx
    · exact .inr ⟨fun k => (by have := q (k ▸ hx); cases this), hx⟩
    · exact .inl ⟨List.mem_singleton.1 hx, rfl⟩
  · exact List.nodup_append.2 ⟨hn, by simp, fun a ha b hb k => by
      rw [List.mem_singleton.1 hb] at k
      have := q (k ▸ ha)
      cases this⟩
theorem aCc (hd : DecOk c) (hl : (e.m.cells.length : Int) = aaP c) (hu : TOk c u) (hx : x ≠ 0) (hb : x ≤ 4294967296) (H : ∀ (a : Ab) (m : Nat), LA a → a.T = c.tasks → a.wa = rcw e → a.hd m = v.1 → a.ph m = v.2 → ∀ w, TOk c w → x = w + 1 → a.ts w = .wait u) :
    Lw c e (e.pt k (acN (aao c) u) x) v v := fun m vs hv h => by
  obtain ⟨rl, ts, la⟩ := h
  have := la.setJ (u := u) (v := x) hx hb fun w hw => H _ m la rfl rfl (by show (vs m).1 = _; rw [hv]) (by show (vs m).2 = _; rw [hv]) w hw
  rw [anU hv]
  refine ⟨rl, ts, ?_⟩
  have e1 : Stt c (e.pt k (acN (aao c) u) x) = Stt c e := funext fun t => alp hd (f := 0) (by omega) (by omega) (by omega)
  have e2 : Jo c (e.pt k (acN (aao c) u) x) = upd (Jo c e) u x := funext fun t => by
    by_cases ht : t = u
    · subst ht; rw [abf]; exact aqZ hd hl (f := 2) (by omega) hu
    · rw [aba ht]; exact at3 hd (f := 2) (by omega) hu ht
  have e3 : (e.pt k (acN (aao c) u) x).gt 0 = e.gt 0 := asB hd (by omega) (by omega)
  have e4 : ajx c (e.pt k (acN (aao c) u) x) ts vs = { ajx c e ts vs with J := upd (Jo c e) u x } := by
    unfold ajx; rw [e1, e2, e3]; rfl
  rw [e4]; exact this
theorem aFh (hd : DecOk c) (hl : (e.m.cells.length : Int) = aaP c) (hu : TOk c u) : Lw c e (e.pt k (acN (aao c) u) (t + 1)) (l, .b t u) (l, .n) := fun m vs hv hh => by
  obtain ⟨rl, ts, la⟩ := hh
  have hph := la.ph m
  have e2 : (ajx c e ts vs).ph m = .b t u := by show (vs m).2 = _; rw [hv]
  have e1 : (ajx c e ts vs).hd m = l := by show (vs m).1 = _; rw [hv]
  rw [e2] at hph
  obtain ⟨k1, k2, k3⟩ := hph
  obtain ⟨c1, c2, c3⟩ := la.cl t k1
  rw [k2] at c2 c3
  have hk1 : 0 ≤ t := k1.1
  have h1 := la.put (m := m) (t := t) k1 (s := .wait u) (S := Stt c e t) (wa := rcw e t) (st := rcs e t) (kn := ac2 kKn e.evs t) (sn := ac2 kSn e.evs t) (fn := ac2 kFn e.evs t) (l := l) (p := .n)
    (fun m' k => by rw [k2] at k; exact (Option.some.inj k).symm) (fun u k => by rw [k2] at k; cases k) (fun k => by rw [k2] at k; cases k)
    ⟨c1, ⟨fun k => (by cases k), fun k => (by have := c2.2 k; cases this)⟩, c3.1, c3.2.1, c3.2.2.1, c3.2.2.2, k3⟩
    (fun x hx => .inr ⟨fun k => (by
      have := (la.hd m x (by rw [e1]; exact hx)).2
      rw [k, k2] at this; cases this), by rw [e1]; exact hx⟩) (by have := la.nd m; rw [e1] at this; exact this) (fun m' k => (by cases k)) (fun x hx k => (by rw [e2] at k; cases k)) trivial
  have h2 := h1.setJ (u := u) (v := t + 1) (by omega) (by have hk2 : t < c.tasks := k1.2; have := hd.t; omega) fun w hw k => by
    have : w = t := by omega
    subst this; exact abf
  have q : ∀ {α : Type} {f : Int → α}, upd f t (f t) = f := fun {α f} => funext fun y => by
    unfold upd; split
    · rename_i h; rw [h]
    · rfl
  have e3 : Stt c (e.pt k (acN (aao c) u) (t + 1)) = Stt c e := funext fun t => alp hd (f := 0) (by omega) (by omega) (by omega)
  have e4 : Jo c (e.pt k (acN (aao c) u) (t + 1)) = upd (Jo c e) u (t + 1) := funext fun x => by
    by_cases ht : x = u
    · subst ht; rw [abf]; exact aqZ hd hl (f := 2) (by omega) hu
    · rw [aba ht]; exact at3 hd (f := 2) (by omega) hu ht
  have e5 : (e.pt k (acN (aao c) u) (t + 1)).gt 0 = e.gt 0 := asB hd (by omega) (by omega)
  refine ⟨rl, upd ts t (.wait u), ?_⟩
  rw [aul]
  have e6 : ({ ajx c (e.pt k (acN (aao c) u) (t + 1)) (upd ts t (.wait u)) vs with hd := ail (fun m => (vs m).1) m (l, Ph.n).1, ph := ail (fun m => (vs m).2) m (l, Ph.n).2 } : Ab) = { ajx c e ts vs with S := upd (Stt c e) t (Stt c e t), wa := upd (rcw e) t (rcw e t), st := upd (rcs e) t (rcs e t), kn := upd (ac2 kKn e.evs) t (ac2 kKn e.evs t), sn := upd (ac2 kSn e.evs) t (ac2 kSn e.evs t), fn := upd (ac2 kFn e.evs) t (ac2 kFn e.evs t), ts := upd ts t (.wait u), hd := ail (fun m => (vs m).1) m l, ph := ail (fun m => (vs m).2) m .n, J := upd (Jo c e) u (t + 1) } := by
    unfold ajx
    rw [q, q, q, q, q, q, e3, e4, e5]; rfl
  rw [e6]
  exact h2
theorem aBa (hd : DecOk c) (ht : TOk c t) (o : Of1 c e e' t) (hin : t ∈ l) (hS : Stt c e' t = Stt c e t) (hs : rcs e' t = rcs e t) (hk : ac2 kKn e'.evs t = ac2 kKn e.evs t) (hn : ac2 kSn e'.evs t = ac2 kSn e.evs t) (hf : ac2 kFn e'.evs t = ac2 kFn e.evs t) {p : Ph} (hp : p = .n ∨ p = .j t (rcw e' t)) : Lw c e e' (l, .n) (l, p) := by
  refine azV (s0 := fun m => .run m) (s := fun m => .run m) ht o (fun a m la hT hS hJ hw hh hp => aw3 la hh hin) (fun m m' k => (Option.some.inj k).symm) (fun m u k => by cases k) (fun m k => by cases k) (fun m k => by cases k) (fun m k => k) (fun k => by rw [hn, hs]; exact k)
    (fun m k => ?_) (fun m hn _ x hx => ?_) (fun m hn _ => hn) (fun m m' k => by cases k) (fun x hx k => by cases k) fun a m la hT hJ hw hh hph e0 => ?_
  · rw [hS, hs, hk, hf]; exact k
  · by_cases hx2 : x = t
    · exact .inl ⟨hx2, rfl⟩
    · exact .inr ⟨hx2, hx⟩
  · rcases hp with rfl | rfl
    · trivial
    · exact ⟨hin, abf⟩
theorem aBv (o : Of1 c e e' t) (hp : v = (l, .f t)) (ht : TOk c t) (hj : Jo c e t ≠ 0) (hS : Stt c e' t = Stt c e t) (hw : rcw e' t = rcw e t) (hs : rcs e' t = rcs e t) (hk : ac2 kKn e'.evs t = ac2 kKn e.evs t) (hn : ac2 kSn e'.evs t = ac2 kSn e.evs t) (hf : ac2 kFn e'.evs t = ac2 kFn e.evs t + 1)
    {s : Nat → Ts} {p : Ph} (hsp : (∀ m, s m = .fg m) ∧ p = .g t ∨ (∀ m, s m = .done) ∧ p = .n) : Lw c e e' v (l, p) := by
  subst hp
  refine azV (s0 := fun m => .fin m) (s := s) ht o (fun a m la hT hS hJ hw hh hp => ?_) (fun m m' k => (Option.some.inj k).symm) (fun m u k => by cases k) (fun m k => by cases k) (fun m k => ?_) (fun m k => k.elim) (fun k => by rw [hn, hs]; exact k)
    (fun m k => ?_) (fun m hn q x hx => .inr ⟨fun k => (by have := q (k ▸ hx); cases this), hx⟩) (fun m hn _ => hn) (fun m m' k => ?_) (fun x hx k => ?_) fun a m la hT hJ hw2 hh hph e0 => ?_
  · have := la.ph m
    rw [hp] at this
    exact this.2
  · rcases hsp with ⟨h1, _⟩ | ⟨h1, _⟩ <;> rw [h1] at k <;> cases k
  · rw [hS, hw, hs, hk, hf]
    rcases hsp with ⟨h1, _⟩ | ⟨h1, _⟩ <;> rw [h1]
    · exact ⟨k.1, k.2.1, k.2.2.1, by rw [k.2.2.2], hj⟩
    · exact ⟨k.1, k.2.1, k.2.2.1, by rw [k.2.2.2], hj⟩
  · rcases hsp with ⟨h1, _⟩ | ⟨h1, _⟩ <;> rw [h1] at k <;> cases k
  · cases k; exact hx rfl
  · rcases hsp with ⟨h1, rfl⟩ | ⟨h1, rfl⟩
    · refine ⟨okA hT ht, by simp only [abf]; exact h1 m, fun w hw3 hj2 => ?_⟩
      have h2 := la.j1 t w (okA hT ht) hw3 (by rw [e0]; exact id) hj2
      have h3 : w ≠ t := fun k => by rw [k, e0] at h2; cases h2
      simp only [aba h3]; exact h2
    · trivial
theorem aC2 {w : Int} (hd : DecOk c) (hw : TOk c w) (h0 : 0 ≤ Jo c e t) (hj : wi (wi (Jo c e t) - 1) = w) : Lw c e e (l, .g t) (l, .h t w) :=
  atg (fun x hx => hx) (fun h => h) (fun x k => by cases k) fun a m la hT hJ hwa hh hp => by
    have := la.ph m
    rw [hp] at this
    have hb := la.jb t this.1
    rw [hJ] at hb
    have ht := hd.t
    have h1 : 0 ≤ w ∧ w < c.tasks := hw
    rw [aaQ (x := Jo c e t) (aau (by omega)), aaQ (aau (by omega))] at hj
    exact ⟨this.1, this.2.1, okA hT hw, this.2.2 w (okA hT hw) (by rw [hJ]; omega)⟩
theorem aAH (hd : DecOk c) (hl : (e.m.cells.length : Int) = aaP c) {w : Int} (hw : TOk c w) : Lw c e (e.pt k (aaV (aao c) w) 1) (l, .h t w) (l, .n) :=
  aBc (s0 := .done) (s := .done) hw (aso hd hw) fun a m la hT hS hJ hwa hst hkn hsn hfn hh hp => by
    have hph := la.ph m
    rw [hp] at hph
    obtain ⟨k1, k2, k3, k4⟩ := hph
    obtain ⟨c1, c2, c3⟩ := la.cl w k3
    rw [k4] at c2 c3
    rw [hsn, hst] at c1
    rw [hS, hwa, hJ, hst, hkn, hfn] at c3
    refine ⟨.ready, fun m' k => (by rw [k4] at k; cases k), fun u k => ?_, fun k => (by rw [k4] at k; cases k), ⟨c1, ⟨fun k => (by cases k), fun k => (by have := c2.2 k; cases this)⟩, amK hd hl hw, c3.2.2.1, c3.2.2.2.1⟩, fun x hx => .inr ⟨fun k => ?_, by rw [hh]; exact hx⟩, ?_, fun m' k => (by cases k), fun x hx k => (by rw [hp] at k; cases k), trivial⟩
    · rw [k4] at k; cases k; exact ⟨k1, k2⟩
    · have := (la.hd m x (by rw [hh]; exact hx)).2
      rw [k, k4] at this; cases this
    · have := la.nd m; rw [hh] at this; exact this
theorem azF (hd : DecOk c) (hl : (e.m.cells.length : Int) = aaP c) (ht : TOk c t) {w o y : Int} : Lw c e ((e.pt k (aaV (aao c) t) 1).em 3 w t o y) (l, .p t) (l, .n) := by
  refine azV (s0 := fun m => .alloc m) (s := fun m => .ready) ht ((aso hd ht).em (.inl rfl)) (fun a m la hT hS hJ hw hh hp => ?_) (fun m m' k => (Option.some.inj k).symm) (fun m u k => by cases k) (fun m k => ?_) (fun m k => by cases k) (fun m k => k.elim) (fun k => ?_)
    (fun m k => ?_) (fun m hn q x hx => .inr ⟨fun k => (by have := q (k ▸ hx); cases this), hx⟩) (fun m hn _ => hn) (fun m m' k => by cases k) (fun x hx k => by cases k) fun a m la hT hJ hw hh hp e0 => trivial
  · have := la.ph m
    rw [hp] at this
    exact this.2
  · cases k
  · show ac2 kSn (e.evs ++ [_]) t = _
    rw [ad9, aeL, if_neg (by intro h; have := h.2; revert this; decide)]
    exact k
  · refine ⟨amK hd hl ht, ?_, ?_⟩
    · show ac2 kKn (e.evs ++ [_]) t = 1
      rw [ad9, aeL, if_pos ⟨rfl, by decide⟩, k.2.2.1]
    · show ac2 kFn (e.evs ++ [_]) t = 0
      rw [ad9, aeL, if_neg (by intro h; have := h.2; revert this; decide), k.2.2.2]
theorem as4 (ht : TOk c t) {w o y : Int} : Lw c e (e.em 1 w t o y) (l, .p t) (l, .q t) := by
  refine azV (s0 := fun m => .alloc m) (s := fun m => .acc m) ht (aoy.em (.inl rfl)) (fun a m la hT hS hJ hw hh hp => ?_) (fun m m' k => (Option.some.inj k).symm) (fun m u k => by cases k) (fun m k => by cases k) (fun m k => by cases k) (fun m k => k.elim) (fun k => ?_)
    (fun m k => ?_) (fun m hn q x hx => .inr ⟨fun k => (by have := q (k ▸ hx); cases this), hx⟩) (fun m hn _ => hn) (fun m m' k => by cases k) (fun x hx k => by cases k) fun a m la hT hJ hw hh hp e0 => ⟨okA hT ht, abf⟩
  · have := la.ph m
    rw [hp] at this
    exact this.2
  · show ac2 kSn (e.evs ++ [_]) t = _
    rw [ad9, aeL, if_neg (by intro h; have := h.2; revert this; decide)]
    exact k
  · refine ⟨k.1, k.2.1, ?_, ?_⟩
    · show ac2 kKn (e.evs ++ [_]) t = 1
      rw [ad9, aeL, if_pos ⟨rfl, by decide⟩, k.2.2.1]
    · show ac2 kFn (e.evs ++ [_]) t = 0
      rw [ad9, aeL, if_neg (by intro h; have := h.2; revert this; decide), k.2.2.2]
theorem azT (hd : DecOk c) (hl : (e.m.cells.length : Int) = aaP c) (ht : TOk c t) : Lw c e (e.pt k (aaV (aao c) t) 1) (l, .q t) (l, .n) := by
  refine azV (s0 := fun m => .acc m) (s := fun m => .ready) ht (aso hd ht) (fun a m la hT hS hJ hw hh hp => ?_) (fun m m' k => (Option.some.inj k).symm) (fun m u k => by cases k) (fun m k => by cases k) (fun m k => by cases k) (fun m k => k.elim) (fun k => k)
    (fun m k => ⟨amK hd hl ht, k.2.2.1, k.2.2.2⟩) (fun m hn q x hx => .inr ⟨fun k => (by have := q (k ▸ hx); cases this), hx⟩) (fun m hn _ => hn) (fun m m' k => by cases k) (fun x hx k => by cases k) fun a m la hT hJ hw hh hp e0 => trivial
  have := la.ph m
  rw [hp] at this
  exact this.2
theorem anL (hd : DecOk c) (hl : (e.m.cells.length : Int) = aaP c) (hL : e.l = aao c) (ht : TOk c t) (hb : adX t e = true) {w : Int} : Lw c e (agz w t e) (l, .n) (l ++ [t], .n) := fun m vs hv hh => by
  have rl := hh.rl
  have hb2 : e.hit (aaV (aao c) t) 1 = true := by unfold adX at hb; rw [hL] at hb; exact hb
  have hg : Stt c e t = 1 := (asA hb2).1
  have hc : e.cas (aaV (aao c) t) 1 2 = e.pt 3 (aaV (aao c) t) 2 := by
    show e.pt 3 _ (if e.m.gt _ = 1 then 2 else _) = _
    rw [if_pos hg]
  have rdy : ∀ (a : Ab), LA a → a.T = c.tasks → a.S = Stt c e → a.ts t = .ready := fun a la hT hS => by
    have := (la.cl t (okA hT ht)).2.2
    rw [hS, hg] at this
    revert this
    cases a.ts t <;> intro this <;> first | rfl | exact absurd this.1 (by decide)
  have main : ∀ {e' : EnvP}, Of1 c e e' t → Stt c e' t = 2 → rcw e' t = rcw e t → rcs e' t = true → ac2 kKn e'.evs t = ac2 kKn e.evs t → ac2 kSn e'.evs t = (if rcs e t = true then ac2 kSn e.evs t else ac2 kSn e.evs t + 1) → ac2 kFn e'.evs t = ac2 kFn e.evs t → Lw c e e' (l, .n) (l ++ [t], .n) := fun {e'} o h1 h2 h3 h4 h5 h6 => by
    refine azV (s0 := fun m => .ready) (s := fun m => .run m) ht o (fun a m la hT hS hJ hw hh hp => rdy a la hT hS) (fun m m' k => by cases k) (fun m u k => by cases k) (fun m k => by cases k) (fun m k => by cases k) (fun m k => k.elim) (fun k => ?_)
      (fun m k => ⟨h1, h3, by rw [h4]; exact k.2.1, by rw [h6]; exact k.2.2⟩) (fun m hn q x hx => ?_) (fun m hn q => ?_) (fun m m' k => by cases k) (fun x hx k => by cases k) fun a m la hT hJ hw hh hp e0 => trivial
    · rw [h5, h3, if_pos rfl]
      split
      · rename_i k2; rw [if_pos k2] at k; exact k
      · rename_i k2; rw [if_neg k2] at k; omega
    · rcases List.mem_append.1 hx with hx | hx
      · exact .inr ⟨fun k => (by have := q (k ▸ hx); cases this), hx⟩
      · exact .inl ⟨List.mem_singleton.1 hx, rfl⟩
    · exact List.nodup_append.2 ⟨hn, by simp, fun a ha b hb k => by
        rw [List.mem_singleton.1 hb] at k
        have := q (k ▸ ha)
        cases this⟩
  refine main ?_ ?_ ?_ ?_ ?_ ?_ ?_ m vs hv hh <;> unfold agz <;> rw [if_pos hb, hL, hc]
  · split
    · exact (aso hd ht).em (.inl rfl)
    · exact ((aso hd ht).pr ht).em (.inl rfl)
  · split
    · exact amK hd hl ht
    · exact amK hd hl ht
  · split
    · rfl
    · show (if 0 ≤ t then ((e.pt 3 (aaV (aao c) t) 2).pr t _).rc t |>.waiting else -1) = _
      rw [apD (e := e.pt 3 (aaV (aao c) t) 2) ht rl]; rfl
  · split
    · rename_i k
      show (if 0 ≤ t then (e.rc t).started else false) = true
      rw [if_pos ht.1]; exact k
    · show (if 0 ≤ t then ((e.pt 3 (aaV (aao c) t) 2).pr t _).rc t |>.started else false) = true
      rw [if_pos ht.1, apD (e := e.pt 3 (aaV (aao c) t) 2) ht rl]
  · split
    · show ac2 kKn (e.evs ++ [_]) t = _
      rw [ad9, aeL, if_neg (by intro h; have := h.2; revert this; decide), Nat.add_zero]
    · show ac2 kKn (e.evs ++ [_]) t = _
      rw [ad9, aeL, if_neg (by intro h; have := h.2; revert this; decide), Nat.add_zero]
  · have hr : rcs e t = (e.rc t).started := if_pos ht.1
    rw [hr]
    split
    · show ac2 kSn (e.evs ++ [_]) t = _
      rw [ad9, aeL, if_neg (by intro h; have := h.2; revert this; decide), Nat.add_zero]
    · show ac2 kSn (e.evs ++ [_]) t = _
      rw [ad9, aeL, if_pos ⟨rfl, by decide⟩]
  · split
    · show ac2 kFn (e.evs ++ [_]) t = _
      rw [ad9, aeL, if_neg (by intro h; have := h.2; revert this; decide), Nat.add_zero]
    · show ac2 kFn (e.evs ++ [_]) t = _
      rw [ad9, aeL, if_neg (by intro h; have := h.2; revert this; decide), Nat.add_zero]
theorem ajw (hd : DecOk c) (hL : e.l = aao c) (hb : ¬ adX t e = true) {w : Int} : Qs c e (agz w t e) := by
  have hb2 : ¬ e.hit (aaV (aao c) t) 1 = true := by unfold adX at hb; rw [hL] at hb; exact hb
  have g : ∀ a, (e.cas (aaV (aao c) t) 1 2).gt a = e.gt a := fun a => by rw [amX, if_neg (fun k => hb2 k.1)]
  unfold agz
  rw [if_neg hb, hL]
  exact Qs.em (e' := e.cas (aaV (aao c) t) 1 2) ⟨fun t => g _, fun t => g _, fun t => g _, g _, rfl, [], by show e.evs = _; simp, fun x hx => by cases hx⟩ (by omega)
theorem axQ (hd : DecOk c) (hl : (e.m.cells.length : Int) = aaP c) (hN : 0 ≤ e.gt 0 ∧ e.gt 0 ≤ 1000000) (ht : c.tasks ≤ e.gt 0) : Lw c e (ab6 e) v v := fun m vs hv h => by
  obtain ⟨rl, ts, la⟩ := h
  have := la.next (n := e.gt 0 + 1) (by show e.gt 0 ≤ _; omega) ht
  rw [anU hv]
  refine ⟨rl, ts, ?_⟩
  have z0 : ∀ {t f : Int}, 0 ≤ f ∧ f < 5 → f ≠ 1 → (ab6 e).gt (acU (aao c) t f) = e.gt (acU (aao c) t f) := fun {t f} hf hf1 => by
    show (e.pt 6 0 _).gt _ = _
    rw [ahl, if_neg]
    intro k
    have := auC hd (t := t) hf hf1 (by omega)
    rw [k.1, aeM] at this
    omega
  have e0 : (ab6 e).gt 0 = e.gt 0 + 1 := by
    have := agl hd
    have h4 := hd.h
    have h5 := hd.t
    show (e.pt 6 0 _).gt 0 = _
    rw [ahl, if_pos ⟨rfl, Int.le_refl 0, by rw [hl]; unfold aaP; omega⟩, agD (by omega)]
  have e4 : ajx c (ab6 e) ts vs = { ajx c e ts vs with N := e.gt 0 + 1 } := by
    unfold ajx
    rw [e0, show Stt c (ab6 e) = Stt c e from funext fun t => z0 (f := 0) (by omega) (by omega), show Jo c (ab6 e) = Jo c e from funext fun t => z0 (f := 2) (by omega) (by omega)]
    rfl
  rw [e4]; exact this
theorem avQ (hd : DecOk c) (hl : (e.m.cells.length : Int) = aaP c) (hN : 0 ≤ e.gt 0 ∧ e.gt 0 ≤ 1000000) (ht : e.gt 0 < c.tasks) {p q : Int} : Lw c e ((ab6 e).pr (e.gt 0) (awt p q)) (l, .n) (l, .p (e.gt 0)) := fun m vs hv h => by
  obtain ⟨rl, ts, la⟩ := h
  have h1 : (ajx c e ts vs).hd m = l := by show (vs m).1 = _; rw [hv]
  have h2 : (ajx c e ts vs).ph m = .n := by show (vs m).2 = _; rw [hv]
  have := la.alloc (m := m) ht (l := l) (fun x hx => by rw [h1]; exact hx) (by have := la.nd m; rw [h1] at this; exact this) h2
  have z0 : ∀ {t f : Int}, 0 ≤ f ∧ f < 5 → f ≠ 1 → (ab6 e).gt (acU (aao c) t f) = e.gt (acU (aao c) t f) := fun {t f} hf hf1 => by
    show (e.pt 6 0 _).gt _ = _
    rw [ahl, if_neg]
    intro k
    have := auC hd (t := t) hf hf1 (by omega)
    rw [k.1, aeM] at this
    omega
  have e0 : (ab6 e).gt 0 = e.gt 0 + 1 := by
    have := agl hd
    have h4 := hd.h
    have h5 := hd.t
    show (e.pt 6 0 _).gt 0 = _
    rw [ahl, if_pos ⟨rfl, Int.le_refl 0, by rw [hl]; unfold aaP; omega⟩, agD (by omega)]
  have tk : TOk c (e.gt 0) := ⟨hN.1, ht⟩
  have r1 : rcw ((ab6 e).pr (e.gt 0) (awt p q)) = upd (rcw e) (e.gt 0) (-1) := funext fun x => by
    by_cases hx : x = e.gt 0
    · rw [hx, abf]
      show (if 0 ≤ e.gt 0 then (((ab6 e).pr (e.gt 0) (awt p q)).rc (e.gt 0)).waiting else -1) = -1
      rw [if_pos hN.1, apD (e := ab6 e) tk rl]; rfl
    · rw [aba hx]; unfold rcw
      split
      · rename_i h0; rw [axf hN.1 hx h0]; rfl
      · rfl
  have r2 : rcs ((ab6 e).pr (e.gt 0) (awt p q)) = upd (rcs e) (e.gt 0) false := funext fun x => by
    by_cases hx : x = e.gt 0
    · rw [hx, abf]
      show (if 0 ≤ e.gt 0 then (((ab6 e).pr (e.gt 0) (awt p q)).rc (e.gt 0)).started else false) = false
      rw [if_pos hN.1, apD (e := ab6 e) tk rl]; rfl
    · rw [aba hx]; unfold rcs
      split
      · rename_i h0; rw [axf hN.1 hx h0]; rfl
      · rfl
  refine ⟨by show ((e.recs.set _ _).length : Int) = _; rw [List.length_set]; exact rl, upd ts (e.gt 0) (.alloc m), ?_⟩
  rw [aul]
  have e4 : ({ ajx c ((ab6 e).pr (e.gt 0) (awt p q)) (upd ts (e.gt 0) (.alloc m)) vs with hd := ail (fun m => (vs m).1) m (l, Ph.p (e.gt 0)).1, ph := ail (fun m => (vs m).2) m (l, Ph.p (e.gt 0)).2 } : Ab) = { ajx c e ts vs with N := e.gt 0 + 1, st := upd (rcs e) (e.gt 0) false, wa := upd (rcw e) (e.gt 0) (-1), ts := upd ts (e.gt 0) (.alloc m), hd := ail (fun m => (vs m).1) m l, ph := ail (fun m => (vs m).2) m (.p (e.gt 0)) } := by
    unfold ajx
    rw [r1, r2, show ((ab6 e).pr (e.gt 0) (awt p q)).gt 0 = e.gt 0 + 1 from e0, show Stt c ((ab6 e).pr (e.gt 0) (awt p q)) = Stt c e from funext fun t => z0 (f := 0) (by omega) (by omega), show Jo c ((ab6 e).pr (e.gt 0) (awt p q)) = Jo c e from funext fun t => z0 (f := 2) (by omega) (by omega)]
    rfl
  rw [e4]; exact this
end
end
def vwR (r : RunS) : Vw := match r.c with
  | .next => (r.stack, .n)
  | .s2 _ => (r.stack, .p r.id)
  | .s3 _ => (r.stack, .n)
  | .s4 _ => (r.stack, .n)
  | .s5 => (r.stack, .n)
  | .j2 => (r.stack, .j (aaC r.stack) r.child)
  | .j3 => (r.stack.dropLast, .b (aaC r.stack) r.child)
  | .j4 => (r.stack.dropLast, .n)
  | .j5 _ => (r.stack.dropLast, .n)
  | .j6 => (r.stack.dropLast, .r (aaC r.stack))
  | .j7 => (r.stack, .n)
  | .f2 => (r.stack.dropLast, .f (aaC r.stack))
  | .f3 => (r.stack.dropLast, .g (aaC r.stack))
  | .f4 .l1 => (r.stack.dropLast, .h (aaC r.stack) r.waiter)
  | .f4 .l2 => (r.stack.dropLast, .h (aaC r.stack) r.waiter)
  | .f4 .l3 => (r.stack.dropLast, .n)
  | .f4 (.l4 _ _) => (r.stack.dropLast, .n)
  | .f5 _ _ => (r.stack.dropLast, .n)
  | .f6 => (r.stack.dropLast, .n)
def vwO : Rs RunS → Vw
  | .go r => vwR r
  | .fin _ _ => ([], .n)
section
variable {c : Cfg} {e e' : EnvP} {w : Int} {v : Vw}
def azj (c : Cfg) (e : EnvP) (v : Vw) (o : Rs RunS × EnvP) : Prop := Lw c e o.2 v (vwO o.1) ∧ o.1.Q (fun r => r.stack ≠ []) fun _ _ => True
theorem azj.ite {P : Prop} [Decidable P] {a b : Rs RunS × EnvP} (h1 : P → azj c e v a) (h2 : ¬ P → azj c e v b) : azj c e v (if P then a else b) := by
  split
  · exact h1 ‹_›
  · exact h2 ‹_›
theorem awN {l : List Int} (h : l ≠ []) : l.dropLast ++ [aaC l] = l := by
  have e1 : aaC l = l.getLast h := by unfold aaC; rw [List.getLast?_eq_some_getLast h]; rfl
  rw [e1]
  exact List.dropLast_concat_getLast h
theorem awF {l : List Int} (h : l ≠ []) : aaC l ∈ l := by
  have h1 : aaC l ∈ l.dropLast ++ [aaC l] := by simp
  rwa [awN h] at h1
theorem aoL {r : RunS} (h : Lw c e e' v (r.stack.dropLast, .n)) (hs : r.stack ≠ []) : azj c e v (agI r e') := by
  unfold agI azj
  by_cases h1 : r.stack.length = 1
  · rw [if_pos h1]
    have : r.stack.dropLast = [] := List.eq_nil_of_length_eq_zero (by rw [List.length_dropLast]; omega)
    rw [this] at h
    exact ⟨h, trivial⟩
  · rw [if_neg h1]
    refine ⟨h, fun k => ?_⟩
    have : r.stack.dropLast.length = 0 := by rw [show r.stack.dropLast = [] from k]; rfl
    rw [List.length_dropLast] at this
    have : r.stack.length ≠ 0 := fun k => hs (List.eq_nil_of_length_eq_zero k)
    omega
theorem axe {t : Int} {r : RecP} (ht : TOk c t) (hr : (e.recs.length : Int) = c.tasks) : rcs (e.pr t r) t = r.started := by
  unfold rcs; rw [if_pos ht.1, apD ht hr]
theorem axd {t : Int} {r : RecP} (ht : TOk c t) (hr : (e.recs.length : Int) = c.tasks) : rcw (e.pr t r) t = r.waiting := by
  unfold rcw; rw [if_pos ht.1, apD ht hr]
theorem aBb {t : Int} (ht : TOk c t) : rcs e t = (e.rc t).started := if_pos ht.1
theorem aBj {a o x : Int} (hm : ¬ e.hit a o = true) : Qs c e (e.cas a o x) := by
  have g : ∀ b, (e.cas a o x).gt b = e.gt b := fun b => by rw [amX, if_neg (fun k => hm k.1)]
  exact ⟨fun t => g _, fun t => g _, fun t => g _, g _, rfl, [], by show e.evs = _; simp, fun x hx => by cases hx⟩
theorem aBp {a o x : Int} (hm : e.hit a o = true) : e.cas a o x = e.pt 3 a x := by
  show e.pt 3 _ (if e.m.gt _ = o then x else _) = _
  rw [if_pos (asA hm).1]
theorem aBo (h : DecOk c) {t f o : Int} (hf : 0 ≤ f ∧ f < 5) (hm : e.hit (acU (aao c) t f) o = true) : TOk c t := by
  have h1 := (asA hm).2
  have e1 := adG h (t := t) hf
  by_cases ht : 0 ≤ t ∧ t < c.tasks
  · exact ht
  · rw [e1, if_neg ht] at h1; omega
theorem azY (hd : DecOk c) {t : Int} {l : List Int} {r : RecP} (ht : TOk c t) (hr : (e.recs.length : Int) = c.tasks) (hin : t ∈ l) (hs : r.started = (e.rc t).started) {p : Ph} (hp : p = .n ∨ p = .j t r.waiting) : Lw c e (e.pr t r) (l, .n) (l, p) :=
  aBa hd ht (aoy.pr ht) hin rfl (by rw [axe ht hr, aBb ht, hs]) rfl rfl rfl (by rw [axd ht hr]; exact hp)
theorem axk (hd : DecOk c) {t k x : Int} {l : List Int} {r : RecP} (ht : TOk c t) (hr : (e.recs.length : Int) = c.tasks) (hin : t ∈ l) (hs : r.started = (e.rc t).started) {p : Ph} (hp : p = .n ∨ p = .j t r.waiting) : Lw c e ((e.pt k (aeC (aao c) t) x).pr t r) (l, .n) (l, p) :=
  aBa hd ht ((aoy.wt hd).pr ht) hin (alp hd (f := 0) (by omega) (by omega) (by omega)) (by rw [axe (e := e.pt k (aeC (aao c) t) x) ht hr, aBb ht, hs]) rfl rfl rfl (by rw [axd (e := e.pt k (aeC (aao c) t) x) ht hr]; exact hp)
theorem aFL {t : Int} {l : List Int} {v' : Vw} (hf : ¬ TOk c t) : Lw c e e (l, .f t) v' := fun m vs hv h => by
  obtain ⟨rl, ts, la⟩ := h
  have := la.ph m
  have e2 : (ajx c e ts vs).ph m = .f t := by show (vs m).2 = _; rw [hv]
  rw [e2] at this
  exact absurd this.1 hf
theorem aFs (hf : ∀ x, v.2 = .f x → ¬ TOk c x) : Lw c e e v ([], .n) := by
  obtain ⟨l, p⟩ := v
  cases p with
  | f t => exact aFL (hf t rfl)
  | _ => exact .drop (fun x hx => by cases hx) (fun _ => .nil) (fun x k => by cases k)
theorem aDC {x : RecP} {i : Ins} : (asN x i).started = x.started := by
  unfold asN
  repeat' split
  all_goals rfl
theorem aE4 {t : Int} {r : RunS} (h : MI c e) (hl : (e.m.cells.length : Int) = aaP c) (hN : 0 ≤ e.gt 0 ∧ e.gt 0 ≤ 1000000) (hr : (e.recs.length : Int) = c.tasks) (ht : TOk c t) (hc : r.c = .next) (hs : r.stack ≠ []) (htop : aaC r.stack = t) : azj c e (r.stack, .n) (asq w e r t (e.rc t) (e.prog (e.rc t))) := by
  have hp : vwR r = (r.stack, .n) := by unfold vwR; rw [hc]
  have hin : t ∈ r.stack := htop ▸ awF hs
  have hgo : ∀ {e' : EnvP}, Lw c e e' (r.stack, .n) (r.stack, .n) → azj c e (r.stack, .n) (.go r, e') := fun h => ⟨by show Lw c e _ _ (vwR r); rw [hp]; exact h, hs⟩
  unfold asq
  rw [h.l]
  refine .ite (fun _ => hgo (axk (r := { e.rc t with waiting := -1 }) h.d ht hr hin rfl (.inl rfl))) fun _ => ?_
  refine .ite (fun _ => ⟨?_, hs⟩) fun _ => ?_
  · show Lw c e _ _ (r.stack.dropLast, .f (aaC r.stack))
    have := aDy (e := e) (k := 2) (l := r.stack.dropLast) h.d hl ht
    rw [← htop, awN hs] at this
    rw [← htop]; exact this
  refine .ite (fun _ => hgo (azY h.d ht hr hin aDC (.inl rfl))) fun _ => ?_
  refine .ite (fun _ => ?_) fun _ => ?_
  · have e1 : wi (e.gt 0) = e.gt 0 := aaQ (aau (by omega))
    rw [e1]
    refine .ite (fun hn => ⟨?_, hs⟩) fun hn => hgo ?_
    · have hn : TOk c (e.gt 0) := by unfold IsT at hn; rw [h.cc] at hn; exact hn
      refine Lw.trans (azY (r := { e.rc t with pc := wi ((e.rc t).pc + 1), kids := (e.rc t).kids ++ [e.gt 0] }) h.d ht hr hin rfl (.inl rfl)) ?_
      exact avQ (e := e.pr t _) h.d hl hN hn.2
    · have hn : ¬ TOk c (e.gt 0) := by unfold IsT at hn; rw [h.cc] at hn; exact hn
      refine Lw.em (by omega) (Lw.trans (azY (r := { e.rc t with pc := wi ((e.rc t).pc + 1), kids := (e.rc t).kids ++ [-1] }) h.d ht hr hin rfl (.inl rfl)) ?_)
      refine axQ (e := e.pr t _) h.d hl hN ?_
      show c.tasks ≤ e.gt 0
      exact Int.not_lt.1 fun k => hn ⟨hN.1, k⟩
  · refine .ite (fun _ => hgo (azY (r := { e.rc t with pc := wi ((e.rc t).pc + 1) }) h.d ht hr hin rfl (.inl rfl))) fun _ => ⟨?_, hs⟩
    have := axk (e := e) (k := 2) (x := wu (wi (aik (e.rc t).kids (acn (e.prog (e.rc t)) (e.rc t).pc).a + 1))) (r := { e.rc t with pc := wi ((e.rc t).pc + 1), waiting := aik (e.rc t).kids (acn (e.prog (e.rc t)) (e.rc t).pc).a }) h.d ht hr hin rfl (.inr rfl)
    rw [← htop] at this ⊢
    exact this
theorem aGg {r : RunS} (h : MI c e) (hl : (e.m.cells.length : Int) = aaP c) (hN : 0 ≤ e.gt 0 ∧ e.gt 0 ≤ 1000000) (hrl : (e.recs.length : Int) = c.tasks) (hr : aD1 c r) (hs : r.stack ≠ []) : azj c e (vwR r) (atm w e r) := by
  unfold atm
  refine .ite (fun ht => ⟨aFs fun x hx => ?_, trivial⟩) fun ht => ?_
  · unfold IsT at ht
    rw [h.cc] at ht
    revert hx
    obtain ⟨stack, id, child, level, waiter, k⟩ := r
    cases k with
    | f2 => intro k; cases k; exact ht
    | f4 s => cases s <;> (intro k; cases k)
    | _ => intro k; cases k
  replace ht : IsT e (aaC r.stack) := Classical.not_not.1 ht
  unfold IsT at ht
  rw [h.cc] at ht
  obtain ⟨stack, id, child, level, waiter, k⟩ := r
  replace ht : TOk c (aaC stack) := ht
  replace hs : stack ≠ [] := hs
  have hst := awN hs
  have hin := awF hs
  have ht2 : 0 ≤ aaC stack ∧ aaC stack < c.tasks := ht
  have htt := h.d.t
  show azj c e _ (afc w e _ (aaC stack))
  cases k with
  | next => exact aE4 h hl hN hrl ht rfl hs rfl
  | s2 s =>
    obtain ⟨h1, h2⟩ := hr
    simp only [afc, aff]
    have hi : ¬ ¬ IsT e id := by unfold IsT; rw [h.cc]; exact fun h => h h1
    rw [if_neg hi, h.l]
    cases s with
    | l1 => exact ⟨Lw.q (.wr h.d (ajl h.d)) .refl, hs⟩
    | l2 => exact ⟨Lw.q (.since h.d) .refl, hs⟩
    | l3 => exact ⟨azF h.d hl h1, hs⟩
  | s3 s =>
    have := aoE (w := w) (v := level) (x := id) h s hr.2
    simp only [afc]
    revert this
    rcases ab2 w level id e s with ⟨o, e'⟩
    intro this
    cases o with
    | go s => exact ⟨Lw.q this .refl, hs⟩
    | fin c0 v0 =>
      simp only
      split
      · exact ⟨Lw.q this .refl, hs⟩
      · exact ⟨Lw.q this .refl, hs⟩
  | s4 s =>
    have := arI (w := w) (v := level) h s
    simp only [afc]
    revert this
    rcases aec w level e s with ⟨o, e'⟩
    intro this
    cases o with
    | go s => exact ⟨Lw.q this .refl, hs⟩
    | fin c0 v0 => exact ⟨Lw.q this .refl, hs⟩
  | s5 =>
    simp only [afc]
    split
    · rename_i hb
      exact ⟨anL h.d hl h.l hr hb, by show stack ++ [id] ≠ []; simp⟩
    · rename_i hb
      exact ⟨Lw.q (ajw h.d h.l hb) .refl, hs⟩
  | j2 =>
    simp only [afc]
    rw [h.l]
    refine ⟨?_, hs⟩
    have := aCY (e := e) (k := 2) (l := stack.dropLast) (u := child) h.d hl ht
    rw [hst] at this
    exact this
  | j3 =>
    simp only [afc]
    rw [h.l]
    have e1 : wu (wi (aaC stack + 1)) = aaC stack + 1 := by rw [aaQ (x := aaC stack + 1) (aau (by omega)), agD (by omega)]
    rw [e1]
    refine .ite (fun hb => ⟨?_, hs⟩) fun hb => ⟨?_, hs⟩
    · rw [aBp hb]
      exact Lw.em (by omega) (aFh h.d hl (aBo h.d (f := 2) (by omega) hb))
    · exact Lw.qr (aBj hb) aCX
  | j4 => exact ⟨Lw.q .lk .refl, hs⟩
  | j5 s =>
    have := aD9 (w := w) (v := level) h s hr
    simp only [afc]
    revert this
    rcases afD w level e s with ⟨o, e'⟩
    intro this
    cases o with
    | go s => exact ⟨Lw.q this .refl, hs⟩
    | fin c0 v0 => exact aoL (Lw.em (by omega) (Lw.q this .refl)) hs
  | j6 =>
    simp only [afc]
    rw [h.l]
    refine ⟨?_, hs⟩
    have := aDK (e := e) (k := 2) (l := stack.dropLast) h.d hl ht
    rw [hst] at this
    exact this
  | j7 =>
    simp only [afc]
    rw [h.l]
    exact ⟨Lw.em (by omega) (axk (r := { e.rc (aaC stack) with waiting := -1 }) h.d ht hrl hin rfl (.inl rfl)), hs⟩
  | f2 =>
    simp only [afc]
    rw [h.l]
    have cz : ∀ {e1 : EnvP} {q : Int → Bool}, (e1.evs = e.evs) → q 10 = false → ac2 q (e1.em 10 w (aaC stack) 0 0).evs (aaC stack) = ac2 q e1.evs (aaC stack) := fun {e1 q} _ hq => by
      show ac2 q (e1.evs ++ [_]) _ = _
      rw [ad9, aeL, hq, if_neg (by rintro ⟨_, h⟩; cases h), Nat.add_zero]
    have co : ∀ {e1 : EnvP}, ac2 kFn (e1.em 10 w (aaC stack) 0 0).evs (aaC stack) = ac2 kFn e1.evs (aaC stack) + 1 := fun {e1} => by
      show ac2 kFn (e1.evs ++ [_]) _ = _
      rw [ad9, aeL, if_pos ⟨rfl, by decide⟩]
    refine .ite (fun hb => aoL ?_ hs) fun hb => ⟨?_, hs⟩
    · rw [aBp hb]
      refine Lw.trans (aCc (k := 3) (x := 4294967296) (v := (stack.dropLast, .f (aaC stack))) h.d hl ht (by omega) (by omega) fun a m la hT hw hh hp w hw k => ?_) (aBv (e := e.pt 3 (acN (aao c) (aaC stack)) 4294967296) (v := (stack.dropLast, .f (aaC stack))) (s := fun _ => .done) (aoy.em (.inl rfl)) rfl ht ?_ rfl rfl rfl (cz rfl (by decide)) (cz rfl (by decide)) co (.inr ⟨fun _ => rfl, rfl⟩))
      · have hw : 0 ≤ w ∧ w < c.tasks := hw
        omega
      · rw [show Jo c (e.pt 3 (acN (aao c) (aaC stack)) 4294967296) (aaC stack) = 4294967296 from aqZ h.d hl (f := 2) (by omega) ht]
        omega
    · refine Lw.trans (Lw.q (aBj (x := 4294967296) hb) .refl) (aBv (e := e.cas (acN (aao c) (aaC stack)) 0 4294967296) (v := (stack.dropLast, .f (aaC stack))) (s := fun m => .fg m) (aoy.em (.inl rfl)) rfl ht ?_ rfl rfl rfl (cz rfl (by decide)) (cz rfl (by decide)) co (.inl ⟨fun _ => rfl, rfl⟩))
      intro k
      have g : (e.cas (acN (aao c) (aaC stack)) 0 4294967296).gt (acN (aao c) (aaC stack)) = e.gt (acN (aao c) (aaC stack)) := by rw [amX, if_neg (fun k => hb k.1)]
      replace k : e.gt (acN (aao c) (aaC stack)) = 0 := g ▸ k
      apply hb
      have hrg := aBL h.d (f := 2) (by omega) ht
      have hrg : 0 ≤ acN (aao c) (aaC stack) ∧ acN (aao c) (aaC stack) < aaP c := hrg
      show decide ((0 ≤ acN (aao c) (aaC stack) ∧ acN (aao c) (aaC stack) < (e.m.cells.length : Int)) ∧ aeA e.m.cells (acN (aao c) (aaC stack)) = 0) = true
      rw [decide_eq_true_iff]
      refine ⟨by omega, ?_⟩
      have k2 : e.m.gt (acN (aao c) (aaC stack)) = 0 := k
      unfold MemV.gt at k2
      rw [if_pos (by omega)] at k2
      exact k2
  | f3 =>
    simp only [afc]
    rw [h.l]
    refine .ite (fun hn => ⟨?_, hs⟩) fun _ => aoL (Lw.q .lk (.drop (fun x hx => hx) (fun h => h) (fun x k => by cases k))) hs
    unfold IsT at hn
    rw [h.cc] at hn
    exact Lw.qr .lk (aC2 h.d hn (h.p _) rfl)
  | f4 s =>
    obtain ⟨h1, h2⟩ := hr
    have h1 : TOk c waiter := h1
    have hi : ¬ ¬ IsT e waiter := by unfold IsT; rw [h.cc]; exact fun h => h h1
    simp only [afc]
    cases s with
    | l1 =>
      simp only [ad5]
      rw [if_neg hi, h.l]
      exact ⟨Lw.q (.since h.d) .refl, hs⟩
    | l2 =>
      simp only [ad5]
      rw [h.l]
      exact ⟨aAH h.d hl h1, hs⟩
    | l3 => exact ⟨Lw.q .lk .refl, hs⟩
    | l4 v0 s =>
      have := aoE (w := w) (v := v0) (x := waiter) h s h2
      simp only [ad5]
      revert this
      rcases ab2 w v0 waiter e s with ⟨o, e'⟩
      intro this
      cases o with
      | go s => exact ⟨Lw.q this .refl, hs⟩
      | fin c0 v1 =>
        simp only
        split
        · exact ⟨Lw.q this .refl, hs⟩
        · exact ⟨Lw.q this .refl, hs⟩
  | f5 v0 s =>
    have := arI (w := w) (v := v0) h s
    simp only [afc]
    revert this
    rcases aec w v0 e s with ⟨o, e'⟩
    intro this
    cases o with
    | go s => exact ⟨Lw.q this .refl, hs⟩
    | fin c0 v0 => exact aoL (Lw.q this .refl) hs
  | f6 =>
    simp only [afc]
    refine .ite (fun hb => ⟨anL h.d hl h.l hr hb, by show stack.dropLast ++ [waiter] ≠ []; simp⟩) fun hb => aoL (Lw.q (ajw h.d h.l hb) .refl) hs
def vwW (k : WorkS) : Vw := match k.c with
  | .t7 s => vwR s
  | _ => ([], .n)
def ay2 (k : WorkS) : Prop := match k.c with
  | .t7 s => s.stack ≠ []
  | _ => True
def arw (c : Cfg) (e : EnvP) (v : Vw) (o : WorkS × EnvP) : Prop := Lw c e o.2 v (vwW o.1) ∧ ay2 o.1
theorem arw.ite {P : Prop} [Decidable P] {a b : WorkS × EnvP} (h1 : P → arw c e v a) (h2 : ¬ P → arw c e v b) : arw c e v (if P then a else b) := by
  split
  · exact h1 ‹_›
  · exact h2 ‹_›
theorem arw.ite1 {P : Prop} [Decidable P] {a b : WorkS} {e' : EnvP} (h1 : P → arw c e v (a, e')) (h2 : ¬ P → arw c e v (b, e')) : arw c e v (if P then a else b, e') := by
  split
  · exact h1 ‹_›
  · exact h2 ‹_›
theorem aBE {k : WorkS} (hk : ay2 k) : ay2 { k with c := abL w e k } ∧ vwW { k with c := abL w e k } = vwW k := by
  obtain ⟨a, b, d, x, g⟩ := k
  cases g with
  | top =>
    unfold abL
    simp only
    split
    · exact ⟨trivial, rfl⟩
    · exact ⟨trivial, rfl⟩
  | _ => exact ⟨hk, rfl⟩
theorem aD6 {k : WorkS} (h : MI c e) (hl : (e.m.cells.length : Int) = aaP c) (hN : 0 ≤ e.gt 0 ∧ e.gt 0 ≤ 1000000) (hrl : (e.recs.length : Int) = c.tasks) (hk : as5 c k) (hh : ay2 k) : arw c e (vwW k) (acw w e k) := by
  have hB := (atc (w := w) h hk).1
  have hB2 := aBE (w := w) (e := e) hh
  have z : ∀ {e' : EnvP}, Qs c e e' → Lw c e e' ([], .n) ([], .n) := fun h => Lw.q h .refl
  unfold acw
  revert hB hB2
  generalize abL w e k = kc
  intro h1 ⟨h2, h3⟩
  rw [← h3]
  cases kc with
  | top => exact ⟨by rw [h3]; exact .refl, hh⟩
  | t1 t s =>
    have := awL (w := w) (t := t) h s h1.2
    simp only
    revert this
    rcases abp w t e s with ⟨o, e'⟩
    intro this
    cases o with
    | go s => exact ⟨z this, trivial⟩
    | fin c0 v0 => exact ⟨z this, trivial⟩
  | t2 s =>
    cases s with
    | pop s =>
      have := aBk (w := w) h s
      simp only [ajA]
      revert this
      rcases agT w e s with ⟨o, e'⟩
      intro this
      cases o with
      | go s => exact ⟨z this, trivial⟩
      | fin c0 v0 =>
        simp only
        by_cases hc : c0 = 2
        · rw [if_pos hc]; exact ⟨z this, trivial⟩
        · rw [if_neg hc]; exact ⟨z this, trivial⟩
    | claim t =>
      simp only [ajA]
      by_cases hb : adX t e = true
      · rw [if_pos hb]
        exact ⟨anL (l := []) h.d hl h.l h1 hb, by show [t] ≠ []; simp⟩
      · rw [if_neg hb]
        exact ⟨z (ajw h.d h.l hb), trivial⟩
  | t3 s =>
    have := ayq (w := w) h s h1
    simp only
    revert this
    rcases abJ w e s with ⟨o, e'⟩
    intro this
    cases o with
    | go s => exact ⟨z this, trivial⟩
    | fin c0 v0 =>
      refine .ite1 (fun hc => ⟨z this, trivial⟩) fun _ => .ite1 (fun _ => ⟨z this, trivial⟩) fun _ => ?_
      unfold atX
      split
      · exact ⟨z this, trivial⟩
      · exact ⟨z this, trivial⟩
  | t4 s =>
    have := axm (c := c) (w := w) (e := e) s
    simp only
    revert this
    rcases aiy w e s with ⟨o, e'⟩
    intro this
    cases o with
    | go s => exact ⟨z this, trivial⟩
    | fin c0 v0 => exact .ite1 (fun hc => ⟨z this, trivial⟩) fun _ => ⟨z this, trivial⟩
  | t5 s =>
    have := awP (w := k.victim) (v := k.level) h s
    simp only
    rw [h.l]
    revert this
    rcases ag1 (aaw (aao c) k.victim k.level) e s with ⟨o, e'⟩
    intro this
    cases o with
    | go s => exact ⟨z this, trivial⟩
    | fin c0 v0 => exact .ite (fun hc => ⟨z (this.em (by omega)), trivial⟩) fun _ => .ite (fun _ => ⟨z this, trivial⟩) fun _ => ⟨z this, trivial⟩
  | t6 =>
    have h1 : TOk c k.x := h1
    simp only
    by_cases hb : adX k.x e = true
    · rw [if_pos hb]
      exact ⟨anL (l := []) h.d hl h.l h1 hb, by show [k.x] ≠ []; simp⟩
    · rw [if_neg hb]
      exact ⟨z (ajw h.d h.l hb), trivial⟩
  | t7 s =>
    have := aGg (w := w) h hl hN hrl h1 h2
    simp only
    revert this
    rcases atm w e s with ⟨o, e'⟩
    intro this
    cases o with
    | go s => exact this
    | fin c0 v0 => exact ⟨this.1, trivial⟩
  | t8 s =>
    have := awX (w := w) h s
    simp only
    revert this
    rcases afn w e s with ⟨o, e'⟩
    intro this
    cases o with
    | go s => exact ⟨z this, trivial⟩
    | fin c0 v0 => exact ⟨z this, trivial⟩
  | t9 s =>
    have := ato (w := k.victim) (v := k.level) (a := k.victim) (b := k.level) h s
    simp only
    rw [h.l]
    revert this
    rcases afo (aaI (aao c) k.victim) k.level (aaw (aao c) k.victim k.level) e s with ⟨o, e'⟩
    intro this
    cases o with
    | go s => exact ⟨z this, trivial⟩
    | fin c0 v0 => exact ⟨z this, trivial⟩
def vwC (k : ClieS) : Vw := match k.c with
  | .n4 => ([], .p k.id)
  | .n5 => ([], .p k.id)
  | .n6 => ([], .p k.id)
  | .a6 _ => ([], .p k.id)
  | .n7 => ([], .q k.id)
  | _ => ([], .n)
theorem Lw.of_q {t : Int} {l : List Int} {v' : Vw} (H : TOk c t → Lw c e e' (l, .q t) v') : Lw c e e' (l, .q t) v' := fun m vs hv h => by
  obtain ⟨ts, la⟩ := h.la
  have := la.ph m
  have e2 : (ajx c e ts vs).ph m = .q t := by show (vs m).2 = _; rw [hv]
  rw [e2] at this
  exact H this.1 m vs hv h
theorem aFE {k : ClieS} {me : Int} (h : MI c e) (hl : (e.m.cells.length : Int) = aaP c) (hN : 0 ≤ e.gt 0 ∧ e.gt 0 ≤ 1000000) (hrl : (e.recs.length : Int) = c.tasks) (hk : ay8 c k) : Lw c e (ao7 c.subs me e k).2.2 (vwC k) (vwC (ao7 c.subs me e k).2.1) := by
  have z : ∀ {e' : EnvP}, Qs c e e' → Lw c e e' ([], .n) ([], .n) := fun h => Lw.q h .refl
  have ite : ∀ {P : Prop} [Decidable P] {a b : Bool × ClieS × EnvP} {v : Vw}, (P → Lw c e a.2.2 v (vwC a.2.1)) → (¬ P → Lw c e b.2.2 v (vwC b.2.1)) → Lw c e (if P then a else b).2.2 v (vwC (if P then a else b).2.1) := fun h1 h2 => by
    split
    · exact h1 ‹_›
    · exact h2 ‹_›
  unfold ao7
  refine ite (fun _ => .refl) fun hi => ?_
  obtain ⟨i, id, acc, g⟩ := k
  obtain ⟨h0, h1⟩ := hk
  show Lw c e (acJ c.subs me e ⟨i, id, acc, g⟩ (abS c.subs i)).2.2 _ (vwC (acJ c.subs me e ⟨i, id, acc, g⟩ (abS c.subs i)).2.1)
  have e1 : wi (e.gt 0) = e.gt 0 := aaQ (aau (by omega))
  cases g with
  | n1 =>
    simp only [acJ]
    by_cases hh : e.hit 1 0 = true
    · rw [if_pos hh]; exact z (ast h)
    · rw [if_neg hh]; exact z (ast h)
  | a1 =>
    simp only [acJ]
    by_cases hh : e.hit 1 0 = true
    · rw [if_pos hh]; exact z (ast h)
    · rw [if_neg hh]; exact z (ast h)
  | n2 =>
    simp only [acJ]
    exact ite (fun _ => Lw.em (by omega) (z .lk)) fun _ => z .lk
  | n3 =>
    simp only [acJ]
    rw [e1]
    refine ite (fun hn => ?_) fun hn => Lw.em (by omega) ?_
    · have hn : TOk c (e.gt 0) := by unfold IsT at hn; rw [h.cc] at hn; exact hn
      exact avQ h.d hl hN hn.2
    · have hn : ¬ TOk c (e.gt 0) := by unfold IsT at hn; rw [h.cc] at hn; exact hn
      exact axQ h.d hl hN (Int.not_lt.1 fun k => hn ⟨hN.1, k⟩)
  | n4 =>
    simp only [acJ]
    rw [h.l]
    exact Lw.q (.wr h.d (ajl h.d)) .refl
  | n5 =>
    simp only [acJ]
    rw [h.l]
    exact Lw.q (.since h.d) .refl
  | n6 =>
    have h1 : TOk c id := h1
    have := avm (d := (abS c.subs i).deadline) (t := id) h .l1
    simp only [acJ]
    revert this
    rcases acO (abS c.subs i).deadline id e .l1 with ⟨o, e'⟩
    intro this
    cases o with
    | go s => exact Lw.q this .refl
    | fin c0 v0 => exact ite (fun _ => Lw.trans (Lw.q this .refl) (as4 h1)) fun _ => Lw.q this (.drop (fun x hx => hx) (fun h => h) (fun x k => by cases k))
  | a6 s =>
    have h2 : TOk c id := h1.1
    have := avm (d := (abS c.subs i).deadline) (t := id) h s
    simp only [acJ]
    revert this
    rcases acO (abS c.subs i).deadline id e s with ⟨o, e'⟩
    intro this
    cases o with
    | go s => exact Lw.q this .refl
    | fin c0 v0 => exact ite (fun _ => Lw.trans (Lw.q this .refl) (as4 h2)) fun _ => Lw.q this (.drop (fun x hx => hx) (fun h => h) (fun x k => by cases k))
  | n7 =>
    simp only [acJ]
    rw [h.l]
    exact Lw.of_q fun ht => azT h.d hl ht
  | n8 =>
    simp only [acJ]
    exact ite (fun _ => z (ayb h)) fun _ => z (ayb h)
  | n9 =>
    have := arI (w := me) (v := (abS c.subs i).level) h (.l1 0)
    simp only [acJ]
    revert this
    rcases aec me (abS c.subs i).level e (.l1 0) with ⟨o, e'⟩
    intro this
    cases o with
    | go s => exact z this
    | fin c0 v0 => exact z this
  | a9 t =>
    have := arI (w := me) (v := (abS c.subs i).level) h t
    simp only [acJ]
    revert this
    rcases aec me (abS c.subs i).level e t with ⟨o, e'⟩
    intro this
    cases o with
    | go s => exact z this
    | fin c0 v0 => exact z this
end
section
variable {c : Cfg} {N : Nat} {e e' : EnvP} {vs : Nat → Vw} {w : WorkerV MV} {l : ClientV MV} {v : Vw}
theorem Rz.nx (h : Rz c e e') : e'.gt 0 = e.gt 0 := by
  rcases h with h | ⟨t, v, h⟩
  · exact h.nx
  · exact h.nx
theorem Rz.evs (h : Rz c e e') : ∃ l, e'.evs = e.evs ++ l := by
  rcases h with h | ⟨t, v, h⟩
  · obtain ⟨l, hl, _⟩ := h.ev; exact ⟨l, hl⟩
  · obtain ⟨k, w, o, l, _, hl, _⟩ := h.ev; exact ⟨_, hl⟩
theorem Tr.nx {p q : arz} (h : Tr c e e' p q) (h0 : 0 ≤ e.gt 0 ∧ e.gt 0 ≤ 1000000) : e'.gt 0 ≤ e.gt 0 + 1 := by
  have al : ∀ {e' : EnvP}, Al c e e' → e'.gt 0 ≤ e.gt 0 + 1 := fun h => by
    rcases h.nx with k | k
    · rw [k, agD (by omega)]; omega
    · omega
  cases h with
  | same _ h => rw [h.nx]; omega
  | drop _ h => rw [h.nx]; omega
  | al h => exact al h
  | al1 _ h => exact al h.a
  | w0 _ _ h => rw [h.nx]; omega
  | an _ _ h => rw [h.nx]; omega
theorem Tr.evs {p q : arz} (h : Tr c e e' p q) : ∃ l, e'.evs = e.evs ++ l := by
  cases h with
  | same _ h => exact h.evs
  | drop _ h => exact h.evs
  | al h => obtain ⟨l, hl, _⟩ := h.ev; exact ⟨l, hl⟩
  | al1 _ h => obtain ⟨l, hl, _⟩ := h.a.ev; exact ⟨l, hl⟩
  | w0 _ _ h => exact ⟨[], by rw [h.ev]; simp⟩
  | an _ _ h => obtain ⟨l, k, w, o, _, _, hl⟩ := h.ev; exact ⟨_, by rw [hl, List.append_assoc]⟩
structure DL (c : Cfg) (N : Nat) (e : EnvP) (vs : Nat → Vw) : Prop where
  ei : EI c (1 + 3 * N) e
  m : MI c e
  n : (e.m.cells.length : Int) = aaP c
  nx : e.gt 0 ≤ N
  li : LI c e vs
def WL (c : Cfg) (N : Nat) (j : Int) (w : WorkerV MV) (v : Vw) : Prop := ∃ k, w = adl (aao c) j k ∧ aht (1 + 3 * N) (mnC c) k ∧ as5 c k ∧ ay2 k ∧ vwW k = v
def CL (c : Cfg) (l : ClientV MV) (v : Vw) : Prop := ∃ k, l = ahS c.subs c.workers k ∧ ay8 c k ∧ vwC k = v
theorem WL.next {j : Int} (hw : WL c N j w v) : WL c (N + 1) j w v := by
  obtain ⟨k, h1, h2, h3⟩ := hw
  exact ⟨k, h1, h2.up (by omega), h3⟩
theorem DL.next (h : DL c N e vs) : DL c (N + 1) e vs := ⟨h.ei.up (by omega), h.m, h.n, by have := h.nx; omega, h.li⟩
theorem DL.clk {k : ClkV} (h : DL c N e vs) : DL c N { e with k := k } vs := by
  obtain ⟨rl, ts, la⟩ := h.li
  exact ⟨h.ei.clk, h.m.ex, h.n, h.nx, rl, ts, la⟩
theorem DL.stp (h : DL c N e vs) (hN : N ≤ 100000) (s : Stp 2 e e') {p q : arz} (t : Tr c e e' p q) {m : Nat} {v' : Vw} (x : Lw c e e' (vs m) v') : DL c (N + 1) e' (ail vs m v') := by
  have s1 := h.ei.stp (by omega) s
  have en : 1 + 3 * N + 3 = 1 + 3 * (N + 1) := by omega
  rw [en] at s1
  have h0 := h.m.p 0
  have h1 := h.nx
  have h2 := t.nx ⟨h0, by omega⟩
  exact ⟨s1, t.i, by rw [(axN s.m h.ei.ct (by omega)).2]; exact h.n, by omega, x m vs rfl h.li⟩
theorem aBF (h : DL c N e vs) (hN : N ≤ 100000) {j : Nat} (hw : WL c N j w (vs j)) :
    aaN (aag w e) fun o => ∃ v', DL c (N + 1) o.2.2.1 (ail vs j v') ∧ WL c (N + 1) j o.2.1 v' ∧ ∃ l, o.2.2.1.evs = e.evs ++ l := by
  obtain ⟨k, rfl, hk, hg, hh, hv⟩ := hw
  rw [← h.ei.many] at hk
  have h0 := h.m.p 0
  have hx := h.nx
  have h1 := auu (w := (j : Int)) h.ei.ok (by omega) k hk
  have h2 := awz (w := (j : Int)) h.ei.ok k
  have h3 := awy (w := (j : Int)) h.ei.ok k hk (by omega)
  have h4 := aA2 (w := (j : Int)) h.m h.n hg
  have h5 := aD6 (w := (j : Int)) h.m h.n ⟨h0, by omega⟩ h.li.rl hg hh
  rw [h.ei.many] at h3
  rw [h.ei.l] at h1
  rw [hv] at h5
  exact ⟨_, h1, _, h.stp hN h2 h4.1 h5.1, ⟨_, rfl, h3.up (by omega), h4.2, h5.2, rfl⟩, h4.1.evs⟩
theorem aDI (h : DL c N e vs) (hN : N ≤ 100000) {m : Nat} (hc : CL c l (vs m)) : aaN (aap l e) fun o => ∃ v', DL c (N + 1) o.2.2.1 (ail vs m v') ∧ CL c o.2.1 v' ∧ ∃ l, o.2.2.1.evs = e.evs ++ l := by
  obtain ⟨k, rfl, hk, hv⟩ := hc
  have h0 := h.m.p 0
  have hx := h.nx
  have h1 := avG (subs := c.subs) (me := c.workers) h.ei.ok (by omega) k hk.1
  have h2 := aDH (subs := c.subs) (me := c.workers) h.ei.ok k
  have h4 := aFD (me := c.workers) h.m h.n hk
  have h5 := aFE (me := c.workers) h.m h.n ⟨h0, by omega⟩ h.li.rl hk
  rw [hv] at h5
  exact ⟨_, h1, _, h.stp hN h2 h4.1 h5, ⟨_, rfl, h4.2, rfl⟩, h4.1.evs⟩
theorem aD7 {j : Int} : WL c 0 j (adl (aao c) j ⟨0, 0, 0, 0, .top⟩) ([], .n) := ⟨_, rfl, trivial, trivial, trivial, rfl⟩
theorem aFF : CL c (ahS c.subs c.workers ⟨0, 0, false, .n1⟩) ([], .n) := ⟨_, rfl, ⟨Int.le_refl 0, trivial⟩, rfl⟩
theorem ayH (h : DecOk c) : ((aiU c).m.cells.length : Int) = aaP c := by
  show ((List.replicate (aaP c).toNat (0 : Int)).length : Int) = _
  have := agl h
  have h4 := h.h
  have h5 := h.t
  rw [List.length_replicate]
  have : 0 ≤ aaP c := by unfold aaP; omega
  omega
theorem aFy (h : DecOk c) : DL c 0 (aiU c) fun _ => ([], .n) := by
  have ht := h.t
  refine ⟨aFx h, aE8 h, ayH h, by rw [asD]; exact Int.le_refl 0, ?_, fun _ => .fresh, ?_⟩
  · show ((List.replicate c.tasks.toNat _).length : Int) = _
    rw [List.length_replicate]; omega
  · have e1 : ajx c (aiU c) (fun _ => .fresh) (fun _ => ([], .n)) = ⟨c.tasks, 0, fun _ => 0, fun _ => 0, rcw (aiU c), rcs (aiU c), fun _ => 0, fun _ => 0, fun _ => 0, fun _ => .fresh, fun _ => [], fun _ => .n⟩ := by
      unfold ajx
      rw [asD, show Stt c (aiU c) = fun _ => 0 from funext fun t => asD, show Jo c (aiU c) = fun _ => 0 from funext fun t => asD]
      rfl
    rw [e1]
    refine aFf fun t h0 h1 => ?_
    show (if 0 ≤ t then ((aiU c).rc t).started else false) = false
    rw [if_pos h0]
    have : (aiU c).rc t = aws := List.eq_of_mem_replicate (auk (α := RecP) (d := (dfR 26 : TR 26)) ⟨h0, by show t < ((List.replicate c.tasks.toNat aws).length : Int); rw [List.length_replicate]; omega⟩)
    rw [this]; rfl
def JL (c : Cfg) (N : Nat) (e : EnvP) (ws : List (WorkerV MV)) (cl : ClientV MV) : Prop :=
  ∃ vs, DL c N e vs ∧ (∀ (j : Nat) w, ws[j]? = some w → WL c N j w (vs j)) ∧ CL c cl (vs ws.length)
structure EngI (c : Cfg) (I : Nat → EnvP → List (WorkerV MV) → ClientV MV → Prop) : Prop where
  w : ∀ {N : Nat} {e : EnvP} {ws : List (WorkerV MV)} {cl : ClientV MV} {j : Nat} {w : WorkerV MV}, I N e ws cl → N ≤ 100000 → ws[j]? = some w → aaN (aag w e) fun o => I (N + 1) o.2.2.1 (ws.set j o.2.1) cl ∧ ∃ l, o.2.2.1.evs = e.evs ++ l
  c : ∀ {N : Nat} {e : EnvP} {ws : List (WorkerV MV)} {cl : ClientV MV}, I N e ws cl → N ≤ 100000 → aaN (aap cl e) fun o => I (N + 1) o.2.2.1 ws o.2.1 ∧ ∃ l, o.2.2.1.evs = e.evs ++ l
  n : ∀ {N : Nat} {e : EnvP} {ws : List (WorkerV MV)} {cl : ClientV MV}, I N e ws cl → I (N + 1) e ws cl
  k : ∀ {N : Nat} {e : EnvP} {ws : List (WorkerV MV)} {cl : ClientV MV} {k : ClkV}, I N e ws cl → I N { e with k := k } ws cl
  ev : ∀ {N : Nat} {e : EnvP} {ws : List (WorkerV MV)} {cl : ClientV MV}, I N e ws cl → e.evs.length ≤ 1 + 3 * N
theorem ax3 {α : Type} {ws : List α} {j : Nat} {w : α} (h : ws[j]? = some w) : j < ws.length := by
  rcases Nat.lt_or_ge j ws.length with k | k
  · exact k
  · rw [List.getElem?_eq_none k] at h; cases h
theorem amQ : EngI c (JL c) where
  w {N e ws cl j w} h hN hj := by
    obtain ⟨vs, h1, h2, h3⟩ := h
    have hl := ax3 hj
    refine (aBF h1 hN (h2 j w hj)).mono fun o ⟨v', g1, g2, g3⟩ => ⟨⟨_, g1, fun i u hu => ?_, ?_⟩, g3⟩
    · by_cases hij : i = j
      · subst hij
        rw [List.getElem?_set_self hl] at hu
        rw [acT, ← Option.some.inj hu]
        exact g2
      · rw [List.getElem?_set_ne (fun k => hij k.symm)] at hu
        rw [aeo hij]
        exact (h2 i u hu).next
    · rw [List.length_set, aeo (by omega)]; exact h3
  c {N e ws cl} h hN := by
    obtain ⟨vs, h1, h2, h3⟩ := h
    refine (aDI h1 hN h3).mono fun o ⟨v', g1, g2, g3⟩ => ⟨⟨_, g1, fun i u hu => ?_, by rw [acT]; exact g2⟩, g3⟩
    have := ax3 hu
    rw [aeo (by omega)]; exact (h2 i u hu).next
  n {N e ws cl} h := by
    obtain ⟨vs, h1, h2, h3⟩ := h
    exact ⟨vs, h1.next, fun i u hu => (h2 i u hu).next, h3⟩
  k {N e ws cl k} h := by
    obtain ⟨vs, h1, h2, h3⟩ := h
    exact ⟨vs, h1.clk, h2, h3⟩
  ev {N e ws cl} h := by
    obtain ⟨vs, h1, h2, h3⟩ := h
    exact h1.ei.ok.ev
theorem avj (h : DecOk c) {ws : List (WorkerV MV)} (hw : ∀ (j : Nat) w, ws[j]? = some w → w = adl (aao c) j ⟨0, 0, 0, 0, .top⟩) : JL c 0 (aiU c) ws (ahS c.subs c.workers ⟨0, 0, false, .n1⟩) :=
  ⟨_, aFy h, fun j w hj => by rw [hw j w hj]; exact aD7, aFF⟩
end
end
end Go.Proofs.YtclaldommncdbaaGreat
