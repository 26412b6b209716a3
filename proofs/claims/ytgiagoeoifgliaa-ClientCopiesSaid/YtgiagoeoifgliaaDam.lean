/- The client alone: every step keeps the invariant. The client alone: the insertion, and what comes behind it. The client alone: the last lines, and every step. What is decoded is valid. What is decoded is valid, also with other numbers of tasks and places. The client alone comes to its end. ClientCopies answers true. -/
import Derived.Test.YtgiagoeoifgliaaDal
import Derived.Test.YtgiagoeoifgliaaDaj
set_option linter.all false
namespace Go.Proofs.Ytgiagoeoifgliaa
section
open Go Go.RowKit
set_option maxRecDepth 100000
section
variable {c : Cfg} {k : Nat} {e : EnvP}
theorem acc_nn (hc : CfOk c) (k : Nat) : 0 ≤ acc c k := by
  have := hc.h; have := hc.t
  unfold acc cap
  split <;> (try split) <;> omega
abbrev SOut (c : Cfg) (x : ClientV MV) (e : EnvP) (μ : Nat) : Prop := Good (clientClientStep x e) fun o => Out c μ o.1.1 o.2.1 o.2.2.1
/-- The lock is taken. -/
theorem lock_got (hc : CfOk c) {id nx : Int} (hk : k < c.subs.length) (hb : EB c e k (acc c k)) (hn : Nm e (acc c k) (acc c k) nx) (hx : NxOk c k nx) (h0 : cel e.m 1 = 0) :
    Good (stepD3 (.attempt ⟨o0, c.workers, false⟩) e) fun o => (o.1.1 = false → Out c (rem c k 20) false (C5 c k 1 o.2.1 false id false) o.2.2.1) ∧ (o.1.1 = true → Good (resultD3 o.2.1) fun r => Good (clientClientAfter (C5 c k 1 r.2.1 false id false) o.2.2.1 r.1.1 r.1.2.1) fun z => Out c (rem c k 20) z.1.1 z.2.1 z.2.2.1) := by
  refine (attempt_ok hc hb.o h0).mono fun o ⟨h1, h2, m, h3, h4⟩ => ⟨fun h => (by rw [h1] at h; cases h), fun _ => ?_⟩
  rw [h2, h3]
  refine .some_ (after_go hk (by decide) (by decide) (by decide) (by decide) ?_)
  have ha := (acc_sp c k).1
  exact Out.go (r' := 19) (Inv.l2 hk (hb.low hc ha.2.2 (a := 1) (by have := hc.h; omega) h4) (hn.upd hc hb.o (a := 1) (by decide) h4) hx) (by decide)
theorem st_l1 (hc : CfOk c) {id nx : Int} (hk : k < c.subs.length) (hb : EB c e k (acc c k)) (hn : Nm e (acc c k) (acc c k) nx) (hx : NxOk c k nx) (h0 : cel e.m 1 = 0) : SOut c (C5 c k 1 .nil true id false) e (rem c k 20) :=
  step_mach hk ((mach_gen hk).trans (by kernel_rfl)) rfl (lock_got hc hk hb hn hx h0)
theorem st_l1b (hc : CfOk c) {id nx : Int} (hk : k < c.subs.length) (hb : EB c e k (acc c k)) (hn : Nm e (acc c k) (acc c k) nx) (hx : NxOk c k nx) (h0 : cel e.m 1 = 0) : SOut c (C5 c k 1 (.attempt ⟨o0, c.workers, false⟩) false id false) e (rem c k 20) :=
  step_in hk rfl (lock_got hc hk hb hn hx h0)
/-- A rejection. -/
theorem rej (hc : CfOk c) {id nx why : Int} {L : Int} {m : MV} {r : Nat} (hr : 4 < r) (hk : k < c.subs.length) (hb : EB c e k (acc c k)) (hn : Nm e (acc c k) (acc c k) nx) (hx : acc c k ≤ nx ∧ nx ≤ (k : Int) + 1 ∧ (nx = acc c k ∨ acc c k = c.tasks)) (hw : evOf c k = ⟨2, c.workers, 0, k, why⟩) (hq : acc c ((k : Int) + 1) = acc c k) :
    Good (clientClientReject (C5 c k L m false id false) e why) fun o => Out c (rem c k r) o.1.1 o.2.1 o.2.2.1 := by
  have hl := hc.sn
  have he : e.evs.length = k := by rw [hb.ev, evsOf_len]
  unfold clientClientReject pEmit
  refine Good.bind (P := fun q => q.2.1 = { e with evs := e.evs ++ [(⟨2, c.workers, 0, k, why⟩ : Ev)] }) (Good.guard (show (((e.evs.length + 1 : Nat)) : Int) < 1000000000000 by rw [he]; omega) fun _ => .some_ rfl) fun q hq2 => ?_
  refine ⟨_, rfl, ?_⟩
  show Out c (rem c k r) false (C5 c k 8 .nil true id false) q.2.1
  rw [hq2]
  refine Out.go (r' := 4) (Inv.l8r hk hq ⟨⟨hb.o.ec, hb.o.el, hb.o.en, hb.o.er, hb.o.es, hb.o.kd⟩, ?_, fun t ht => ⟨(hb.ts t ht).st, (hb.ts t ht).lv, (hb.ts t ht).rc⟩⟩ ⟨hn.sz, hn.ar, hn.nx⟩ ?_) hr
  · show e.evs ++ _ = _
    rw [evsOf_succ, hb.ev, hw]
  · unfold NxOk; rw [hq]; exact hx
theorem st_l2 (hc : CfOk c) {id nx : Int} (hk : k < c.subs.length) (hb : EB c e k (acc c k)) (hn : Nm e (acc c k) (acc c k) nx) (hx : NxOk c k nx) : SOut c (C5 c k 2 .nil true id false) e (rem c k 19) := by
  refine step_acc hk ((mach_gen hk).trans (by kernel_rfl)) ?_
  have ha := acc_sp c k
  have hh := hc.h
  unfold clientClientAccess
  refine Good.guard (k_in hk) fun _ => Good.guard rfl fun _ => ?_
  unfold pLSize
  rw [obind]
  dsimp only
  refine (load_eq (low_in hc hb.o (by have := hc.k; omega))).bind fun r ⟨r1, r2⟩ => ?_
  have e1 : wi r.1.1 = acc c k := by
    rw [r1]; show wi (cel e.m 2) = _
    rw [hn.sz]; exact wi_id (rg_lit (by have := acc_nn hc k; have := ha.1; omega))
  rw [e1]
  have hb' := hb.same r2
  have hn' := hn.same r2
  refine Good.ite (fun hge => ?_) fun hlt => ?_
  · have hge' : c.heap ≤ acc c k := by rw [hb.o.ec] at hge; exact hge
    have hq : acc c k = c.heap := by omega
    refine (rej hc (r := 19) (by decide) hk hb' hn' ⟨hx.1, by have := hx.2.1; omega, hx.2.2⟩ (by unfold evOf; rw [if_pos hq]) (ha.2.2 (.inl hq))).bind fun o ho => .some_ ho
  · have hlt' : ¬ c.heap ≤ acc c k := by rw [hb.o.ec] at hlt; exact hlt
    exact ⟨_, rfl, Out.go (r' := 18) (Inv.l3 hk (by omega) hb' hn' hx) (by decide)⟩
/-- The environment behind a store of a task's cell. -/
theorem st_l3 (hc : CfOk c) {id nx : Int} (hk : k < c.subs.length) (hh : acc c k < c.heap) (hb : EB c e k (acc c k)) (hn : Nm e (acc c k) (acc c k) nx) (hx : NxOk c k nx) : SOut c (C5 c k 3 .nil true id false) e (rem c k 18) := by
  have ha := acc_sp c k
  have hs := hc.sn
  have hnn := acc_nn hc k
  obtain ⟨x1, x2, x3⟩ := hx
  refine step_mach (m := .alloc ⟨o0⟩) hk ((mach_gen hk).trans (by kernel_rfl)) rfl ?_
  refine (alloc_ok hc hb.o hn.nx (by omega)).mono fun o ⟨h1, h2, m, h3, h4⟩ => ⟨fun h => (by rw [h1] at h; cases h), fun _ => ?_⟩
  rw [h2, h3]
  have hb' := hb.low hc ha.1.2.2 (a := 0) (by have := hc.h; omega) h4
  have hn' := hn.upd hc hb.o (a := 0) (by decide) h4
  refine .some_ ?_
  unfold clientClientAfter
  refine Good.guard (k_in hk) fun _ => Good.guard rfl fun _ => Good.guard rfl fun _ => Good.guard rfl fun _ => Good.guard rfl fun _ => Good.guard rfl fun _ => ?_
  by_cases ht : nx < c.tasks
  · rw [if_pos ht]
    have hq : nx = acc c k := by omega
    have hqk := (ha.2.1 hh (by omega)).1
    have hac : Ac c k := ⟨hk, by omega, by omega⟩
    have hnk : nx = (k : Int) := by omega
    subst hnk
    refine Good.ite (fun h => absurd (show (1 : Int) = 3 from h) (by decide)) fun _ => ?_
    have her := hb.o.er
    refine Good.guard (show 0 ≤ (k : Int) ∧ (k : Int) < ((e.recs.length : Nat) : Int) by omega) fun _ => ?_
    rw [hqk] at hb' hn'
    have key : ∀ t, 0 ≤ t ∧ t < c.tasks → atK26 (e.recs.set (k : Int).toNat (recOf (atK4 c.subs k))) t = if (k : Int) = t then recOf (atK4 c.subs k) else atK26 e.recs t := fun t ht' => by
      show ((e.recs.set (k : Int).toNat _)[t.toNat]?).getD _ = if (k : Int) = t then _ else (e.recs[t.toNat]?).getD _
      rw [List.getElem?_set]
      by_cases h : (k : Int) = t
      · rw [if_pos h, if_pos (by omega), if_pos (by omega)]; rfl
      · rw [if_neg h, if_neg (by omega)]
    refine ⟨_, rfl, Out.go (r' := 17) (Inv.l4 hac ⟨⟨hb'.o.ec, hb'.o.el, hb'.o.en, ?_, hb'.o.es, fun r hr => (List.mem_or_eq_of_mem_set hr).elim (hb'.o.kd r) (fun h => by rw [h])⟩, hb'.ev, fun t ht' => ⟨(hb'.ts t ht').st, (hb'.ts t ht').lv, ?_⟩⟩ ⟨hn'.sz, hn'.ar, hn'.nx⟩ ?_) (by decide)⟩
    · show ((e.recs.set _ _).length : Int) = _; rw [List.length_set]; exact her
    · exact (key t (by omega)).trans ((if_neg (by omega)).trans (hb'.ts t ht').rc)
    · exact (key k (by omega)).trans (if_pos rfl)
  · rw [if_neg ht]
    refine Good.guard rfl fun _ => ?_
    have hq : acc c k = c.tasks := by omega
    have hne : acc c k ≠ c.heap := by omega
    exact (rej hc (r := 18) (by decide) hk hb' hn' ⟨by show acc c k ≤ nx + 1; omega, by show nx + 1 ≤ (k : Int) + 1; omega, .inr hq⟩ (by unfold evOf; rw [if_neg hne, if_pos hq]) (ha.2.2 (.inr hq))).bind fun o ho => .some_ ho
theorem sub_rg (hc : CfOk c) (hk : k < c.subs.length) : (0 ≤ (atK4 c.subs k).level ∧ (atK4 c.subs k).level < c.levels) ∧ 0 ≤ (atK4 c.subs k).deadline ∧ (atK4 c.subs k).deadline ≤ 15 := hc.ss _ (at_in (k_in hk))
theorem st_l4 (hc : CfOk c) (ha : Ac c k) (hb : EB c e k k) (hn : Nm e k k (k + 1)) (hr : atK26 e.recs k = recOf (atK4 c.subs k)) : SOut c (C5 c k 4 .nil true k false) e (rem c k 17) := by
  have hs := sub_rg hc ha.s
  have hl := hc.l
  have ht := ha.t
  have hh := hc.h
  have hkk := hc.k
  have htb := tab_rg hc
  refine step_acc ha.s ((mach_gen ha.s).trans (by kernel_rfl)) ?_
  unfold clientClientAccess
  refine Good.guard (k_in ha.s) fun _ => Good.ite (fun h => absurd (show (4 : Int) = 2 from h) (by decide)) fun _ => Good.guard rfl fun _ => ?_
  have hlv : pLevel e.l k = some ((tab c + 1 + k * 5, ()), ()) := by
    rw [hb.o.el]; unfold pLevel; rw [task_ad hc ⟨by omega, ht⟩ (by decide), obind]
  rw [hlv, obind]
  dsimp only
  refine (store_eq (task_in hc hb.o ⟨by omega, ht⟩ (by decide))).bind fun r h4 => ?_
  have e1 : wu (atK4 c.subs k).level = (atK4 c.subs k).level := wu_id (by omega)
  rw [e1] at h4
  refine ⟨_, rfl, Out.go (r' := 16) (Inv.l5 ha (hb.high hc (f := 1) ⟨by omega, ht⟩ (by omega) (by decide) h4) ?_ hr ?_) (by decide)⟩
  · have := hn.upd hc hb.o (by omega) h4
    rw [if_neg (by omega), if_neg (by omega), if_neg (by omega)] at this
    exact this
  · exact (cel_upd hb.o (by omega) (by omega) h4).trans (if_pos rfl)
theorem st_l5 (hc : CfOk c) (ha : Ac c k) (hb : EB c e k k) (hn : Nm e k k (k + 1)) (hr : atK26 e.recs k = recOf (atK4 c.subs k)) (hl : cel e.m (tab c + 1 + k * 5) = (atK4 c.subs k).level) : SOut c (C5 c k 5 .nil true k false) e (rem c k 16) := by
  have ht := ha.t
  have hh := hc.h
  have hkk := hc.k
  have htb := tab_rg hc
  refine step_acc ha.s ((mach_gen ha.s).trans (by kernel_rfl)) ?_
  unfold clientClientAccess
  refine Good.guard (k_in ha.s) fun _ => Good.ite (fun h => absurd (show (5 : Int) = 2 from h) (by decide)) fun _ => Good.ite (fun h => absurd (show (5 : Int) = 4 from h) (by decide)) fun _ => Good.guard rfl fun _ => ?_
  have hlv : pSince e.l k = some ((tab c + 4 + k * 5, ()), ()) := by
    rw [hb.o.el]; unfold pSince; rw [task_ad hc ⟨by omega, ht⟩ (by decide), obind]
  unfold pNow
  rw [hlv, obind, obind]
  dsimp only
  refine (store_eq (task_in hc hb.o ⟨by omega, ht⟩ (by decide))).bind fun r h4 => ?_
  refine ⟨_, rfl, Out.go (r' := 15) (Inv.l6 ha (hb.high hc (f := 4) ⟨by omega, ht⟩ (by omega) (by decide) h4) ?_ hr ?_) (by decide)⟩
  · have := hn.upd hc hb.o (by omega) h4
    rw [if_neg (by omega), if_neg (by omega), if_neg (by omega)] at this
    exact this
  · exact ((cel_upd hb.o (by omega) (by omega) h4).trans (if_neg (by omega))).trans hl
end
end
section
open Go Go.RowKit
set_option maxRecDepth 100000
section
variable {c : Cfg} {k : Nat} {e : EnvP}
abbrev MOut (c : Cfg) (k : Nat) (L : Int) (id : Int) (a : Bool) (μ : Nat) (o : (Bool × Unit) × (MV × EnvP × Unit)) : Prop :=
  (o.1.1 = false → Out c μ false (C5 c k L o.2.1 false id a) o.2.2.1) ∧ (o.1.1 = true → Good (resultD3 o.2.1) fun r => Good (clientClientAfter (C5 c k L r.2.1 false id a) o.2.2.1 r.1.1 r.1.2.1) fun z => Out c μ z.1.1 z.2.1 z.2.2.1)
theorem MOut.ins {L : Int} {id : Int} {a : Bool} {μ : Nat} {o : (Bool × Unit) × (MV × EnvP × Unit)} {d t n l p y x : Int} {P : MemV → Prop} (h : InsP d t e n l p y x P o) (hm : ∀ m, P m → Out c μ false (C5 c k L (IV d t l n p y x) false id a) { e with m := m }) : MOut c k L id a μ o := by
  obtain ⟨h1, h2, m, h3, h4⟩ := h
  refine ⟨fun _ => ?_, fun h => (by rw [h1] at h; cases h)⟩
  rw [h2, h3]; exact hm m h4
theorem st_l6 (hc : CfOk c) (ha : Ac c k) (hb : EB c e k k) (hn : Nm e k k (k + 1)) (hr : atK26 e.recs k = recOf (atK4 c.subs k)) (hl : cel e.m (tab c + 1 + k * 5) = (atK4 c.subs k).level) : SOut c (C5 c k 6 .nil true k false) e (rem c k 15) := by
  have hh := ha.h
  refine step_mach (m := IV (atK4 c.subs k).deadline k 1 0 0 0 0) ha.s ((mach_gen ha.s).trans (by kernel_rfl)) rfl ?_
  exact (ins1 hc hb.o hn.sz ⟨by omega, hh⟩).mono fun o ho => MOut.ins ho fun m hm => Out.go (r' := 14) (Inv.i2 ha (hb.same hm) (hn.same hm) hr ((cel_same hm).trans hl)) (by decide)
theorem low_keep (hc : CfOk c) (hb : EB c e k k) (ht : (k : Int) < c.tasks) {m : MemV} {a v : Int} (h0 : 0 ≤ a ∧ a < 4 + c.heap) (hm : m.cells = e.m.cells.set a.toNat v) (hl : cel e.m (tab c + 1 + k * 5) = (atK4 c.subs k).level) : cel m (tab c + 1 + k * 5) = (atK4 c.subs k).level := by
  have htb := tab_rg hc
  have := hc.k; have := hc.h
  exact ((cel_upd hb.o h0.1 (by omega) hm).trans (if_neg (by omega))).trans hl
theorem place_out (hc : CfOk c) {p y x : Int} {r : Nat} (hr' : 7 + dp p < r) (hp : 0 ≤ p ∧ p ≤ k) (ha : Ac c k) (hb : EB c e k k) (hn : Nm e k (k + 1) (k + 1)) (hr : atK26 e.recs k = recOf (atK4 c.subs k)) (hl : cel e.m (tab c + 1 + k * 5) = (atK4 c.subs k).level) : Out c (rem c k r) false (C5 c k 6 (IV (atK4 c.subs k).deadline k (if 0 < p then 3 else 5) k p y x) false k false) e := by
  by_cases h : 0 < p
  · rw [if_pos h]; exact Out.go (Inv.i3 ⟨h, hp.2⟩ ha hb hn hr hl) hr'
  · rw [if_neg h]; exact Out.go (Inv.i5 hp ha hb hn hr hl) (by omega)
theorem dp_le (p : Int) : dp p ≤ 6 := by unfold dp; split <;> (try split) <;> (try split) <;> omega
theorem dp_par {p : Int} (h : 0 < p ∧ p ≤ 8) : dp ((p - 1) / 2) + 2 ≤ dp p := by
  unfold dp
  split <;> split <;> (try split) <;> (try split) <;> (try split) <;> (try split) <;> omega
theorem st_i2 (hc : CfOk c) (ha : Ac c k) (hb : EB c e k k) (hn : Nm e k k (k + 1)) (hr : atK26 e.recs k = recOf (atK4 c.subs k)) (hl : cel e.m (tab c + 1 + k * 5) = (atK4 c.subs k).level) : SOut c (C5 c k 6 (IV (atK4 c.subs k).deadline k 2 k 0 0 0) false k false) e (rem c k 14) := by
  have hh := ha.h
  have ht := ha.t
  have hs := sub_rg hc ha.s
  have hcs := hc.sn
  have hks := ha.s
  have hch := hc.h
  refine step_in ha.s rfl ?_
  refine (ins2 hc hb.o hn.ar ⟨by omega, hh⟩ (by omega) (by omega) (by omega)).mono fun o ⟨y, ho⟩ => MOut.ins ho fun m hm => ?_
  have := dp_le k
  have hn' := hn.upd hc hb.o (a := 3) (by decide) hm
  exact place_out hc (r := 14) (by omega) ⟨by omega, by omega⟩ ha (hb.low hc (by omega) (a := 3) (by omega) hm) hn' hr (low_keep hc hb ht (a := 3) (by omega) hm hl)
theorem st_i3 (hc : CfOk c) {p y x : Int} (hp : 0 < p ∧ p ≤ k) (ha : Ac c k) (hb : EB c e k k) (hn : Nm e k (k + 1) (k + 1)) (hr : atK26 e.recs k = recOf (atK4 c.subs k)) (hl : cel e.m (tab c + 1 + k * 5) = (atK4 c.subs k).level) : SOut c (C5 c k 6 (IV (atK4 c.subs k).deadline k 3 k p y x) false k false) e (rem c k (7 + dp p)) := by
  have hh := ha.h
  have hd := dp_par (p := p) (by have := hc.h; omega)
  refine step_in ha.s rfl ?_
  refine (ins3 hc hb.o ⟨hp.1, by omega⟩).mono fun o ⟨l, z, hlz, ho⟩ => MOut.ins ho fun m hm => ?_
  rcases hlz with e4 | e5
  · subst e4; exact Out.go (Inv.i4 hp ha (hb.same hm) (hn.same hm) hr ((cel_same hm).trans hl)) (by omega)
  · subst e5; exact Out.go (Inv.i5 ⟨by omega, hp.2⟩ ha (hb.same hm) (hn.same hm) hr ((cel_same hm).trans hl)) (by omega)
theorem slot_nm (hc : CfOk c) (hb : EB c e k k) {m : MemV} {p v sz ar nx : Int} (hp : 0 ≤ p) (hm : m.cells = e.m.cells.set (4 + p).toNat v) (hn : Nm e sz ar nx) : Nm { e with m := m } sz ar nx := by
  have := hn.upd hc hb.o (a := 4 + p) (by omega) hm
  rw [if_neg (by omega), if_neg (by omega), if_neg (by omega)] at this
  exact this
theorem st_i4 (hc : CfOk c) {p y x : Int} (hp : 0 < p ∧ p ≤ k) (ha : Ac c k) (hb : EB c e k k) (hn : Nm e k (k + 1) (k + 1)) (hr : atK26 e.recs k = recOf (atK4 c.subs k)) (hl : cel e.m (tab c + 1 + k * 5) = (atK4 c.subs k).level) : SOut c (C5 c k 6 (IV (atK4 c.subs k).deadline k 4 k p y x) false k false) e (rem c k (6 + dp p)) := by
  have hh := ha.h
  have ht := ha.t
  have hd := dp_par (p := p) (by have := hc.h; omega)
  refine step_in ha.s rfl ?_
  refine (ins4 hc hb.o ⟨hp.1, by omega⟩).mono fun o ho => MOut.ins ho fun m hm => ?_
  exact place_out hc (r := 6 + dp p) (by omega) ⟨by omega, by omega⟩ ha (hb.low hc (by omega) (a := 4 + p) (by omega) hm) (slot_nm hc hb (by omega) hm hn) hr (low_keep hc hb ht (a := 4 + p) (by omega) hm hl)
theorem st_i5 (hc : CfOk c) {p y x : Int} (hp : 0 ≤ p ∧ p ≤ k) (ha : Ac c k) (hb : EB c e k k) (hn : Nm e k (k + 1) (k + 1)) (hr : atK26 e.recs k = recOf (atK4 c.subs k)) (hl : cel e.m (tab c + 1 + k * 5) = (atK4 c.subs k).level) : SOut c (C5 c k 6 (IV (atK4 c.subs k).deadline k 5 k p y x) false k false) e (rem c k 7) := by
  have hh := ha.h
  have ht := ha.t
  refine step_in ha.s rfl ?_
  refine (ins5 hc hb.o ⟨hp.1, by omega⟩).mono fun o ho => MOut.ins ho fun m hm => ?_
  exact Out.go (r' := 6) (Inv.i6 ha (hb.low hc (by omega) (a := 4 + p) (by omega) hm) (slot_nm hc hb (by omega) hm hn) hr (low_keep hc hb ht (a := 4 + p) (by omega) hm hl)) (by decide)
end
end
section
open Go Go.RowKit
set_option maxRecDepth 100000
section
variable {c : Cfg} {k : Nat} {e : EnvP}
theorem evOf_ac (ha : Ac c k) : evOf c k = ⟨1, c.workers, k, k, (atK4 c.subs k).level⟩ := by
  have h := (acc_ac ha).1
  have h1 := ha.h; have h2 := ha.t
  unfold evOf
  rw [h, if_neg (by omega), if_neg (by omega)]
theorem st_i6 (hc : CfOk c) {p y x : Int} (ha : Ac c k) (hb : EB c e k k) (hn : Nm e k (k + 1) (k + 1)) (hr : atK26 e.recs k = recOf (atK4 c.subs k)) (hl : cel e.m (tab c + 1 + k * 5) = (atK4 c.subs k).level) : SOut c (C5 c k 6 (IV (atK4 c.subs k).deadline k 6 k p y x) false k false) e (rem c k 6) := by
  have hh := ha.h
  have ht := ha.t
  have hcs := hc.sn
  have hks := ha.s
  refine step_in ha.s rfl ?_
  refine (ins6 hc hb.o ⟨by omega, hh⟩).mono fun o ⟨h1, h2, m, h3, hm⟩ => ⟨fun h => (by rw [h1] at h; cases h), fun _ => ?_⟩
  rw [h2, h3]
  refine .some_ ?_
  have hb' := hb.low hc (by omega) (a := 2) (by have := hc.h; omega) hm
  have hn' := hn.upd hc hb.o (a := 2) (by decide) hm
  have hl' := low_keep hc hb ht (a := 2) (by have := hc.h; omega) hm hl
  have he : e.evs.length = k := by rw [hb.ev, evsOf_len]
  unfold clientClientAfter pEmit
  refine Good.guard (k_in ha.s) fun _ => Good.guard rfl fun _ => Good.guard rfl fun _ => Good.guard rfl fun _ => Good.guard rfl fun _ => Good.ite (fun h => absurd (show (6 : Int) = 3 from h) (by decide)) fun _ => Good.guard rfl fun _ => Good.ite (fun h => absurd rfl h) fun _ => ?_
  refine Good.bind (P := fun q => q.2.1 = { e with m := m, evs := e.evs ++ [(⟨1, c.workers, k, k, (atK4 c.subs k).level⟩ : Ev)] }) (Good.guard (show (((e.evs.length + 1 : Nat)) : Int) < 1000000000000 by rw [he]; omega) fun _ => .some_ rfl) fun q hq2 => ?_
  refine ⟨_, rfl, ?_⟩
  show Out c (rem c k 6) false (C5 c k 7 .nil true k true) q.2.1
  rw [hq2]
  refine Out.go (r' := 5) (Inv.l7 ha ⟨⟨hb'.o.ec, hb'.o.el, hb'.o.en, hb'.o.er, hb'.o.es, hb'.o.kd⟩, ?_, fun t ht => ⟨(hb'.ts t ht).st, (hb'.ts t ht).lv, (hb'.ts t ht).rc⟩⟩ ⟨hn'.sz, hn'.ar, hn'.nx⟩ hr hl') (by decide)
  show e.evs ++ _ = _
  rw [evsOf_succ, hb.ev, evOf_ac ha]
theorem st_l7 (hc : CfOk c) (ha : Ac c k) (hb : EB c e (k + 1) k) (hn : Nm e (k + 1) (k + 1) (k + 1)) (hr : atK26 e.recs k = recOf (atK4 c.subs k)) (hl : cel e.m (tab c + 1 + k * 5) = (atK4 c.subs k).level) : SOut c (C5 c k 7 .nil true k true) e (rem c k 5) := by
  have ht := ha.t
  have hh := hc.h
  have hkk := hc.k
  have htb := tab_rg hc
  refine step_acc ha.s ((mach_gen ha.s).trans (by kernel_rfl)) ?_
  unfold clientClientAccess
  refine Good.guard (k_in ha.s) fun _ => Good.ite (fun h => absurd (show (7 : Int) = 2 from h) (by decide)) fun _ => Good.ite (fun h => absurd (show (7 : Int) = 4 from h) (by decide)) fun _ => Good.ite (fun h => absurd (show (7 : Int) = 5 from h) (by decide)) fun _ => ?_
  have hlv : pState e.l k = some ((tab c + 0 + k * 5, ()), ()) := by
    rw [hb.o.el]; unfold pState; rw [task_ad hc ⟨by omega, ht⟩ (by decide), obind]
  rw [hlv, obind]
  dsimp only
  refine (store_eq (task_in hc hb.o ⟨by omega, ht⟩ (by decide))).bind fun r h4 => ?_
  have hb' := hb.high hc (f := 0) ⟨by omega, ht⟩ (by omega) (by decide) h4
  refine ⟨_, rfl, Out.go (r' := 4) (Inv.l8a ha ⟨hb'.o, hb'.ev, fun t ht' => ?_⟩ ?_) (by decide)⟩
  · by_cases hq : t < k
    · exact hb'.ts t ⟨ht'.1, hq⟩
    · obtain rfl : t = (k : Int) := by omega
      exact ⟨(cel_upd hb.o (by omega) (by omega) h4).trans (if_pos rfl), ((cel_upd hb.o (by omega) (by omega) h4).trans (if_neg (by omega))).trans hl, hr⟩
  · have := hn.upd hc hb.o (by omega) h4
    rw [if_neg (by omega), if_neg (by omega), if_neg (by omega)] at this
    exact this
theorem rel_nm (hc : CfOk c) (h : EOk c e) {m : MemV} {sz ar nx : Int} (hn : Nm e sz ar nx) (hm : m.cells = e.m.cells.set 1 0) : Nm { e with m := m } sz ar nx ∧ cel m 1 = 0 := by
  have h1 := hn.upd hc h (a := 1) (by decide) hm
  have h2 := tab_rg hc
  have := hc.h; have := hc.k
  exact ⟨h1, (cel_upd h (a := 1) (b := 1) (by decide) (by have := hc.t; omega) hm).trans (if_pos rfl)⟩
theorem st_l8a (hc : CfOk c) (ha : Ac c k) (hb : EB c e (k + 1) (k + 1)) (hn : Nm e (k + 1) (k + 1) (k + 1)) : SOut c (C5 c k 8 .nil true k true) e (rem c k 4) := by
  have ht := ha.t
  refine step_mach (m := .release ⟨o0⟩) ha.s ((mach_gen ha.s).trans (by kernel_rfl)) rfl ?_
  refine (release_ok hc hb.o).mono fun o ⟨h1, h2, m, h3, hm⟩ => ⟨fun h => (by rw [h1] at h; cases h), fun _ => ?_⟩
  rw [h2, h3]
  refine .some_ ?_
  have hq := rel_nm hc hb.o hn hm
  unfold clientClientAfter
  refine Good.guard (k_in ha.s) fun _ => Good.guard rfl fun _ => Good.guard rfl fun _ => Good.guard rfl fun _ => Good.guard rfl fun _ => Good.ite (fun h => absurd (show (8 : Int) = 3 from h) (by decide)) fun _ => Good.ite (fun h => absurd (show (8 : Int) = 6 from h) (by decide)) fun _ => Good.guard rfl fun _ => Good.ite (fun h => absurd (show (!true) = true from h) (by decide)) fun _ => ?_
  exact ⟨_, rfl, Out.go (r' := 3) (Inv.l9 ha (hb.low hc (by omega) (a := 1) (by have := hc.h; omega) hm) hq.1 hq.2) (by decide)⟩
theorem st_l8r (hc : CfOk c) {id nx : Int} (hk : k < c.subs.length) (hq : acc c (k + 1) = acc c k) (hb : EB c e (k + 1) (acc c k)) (hn : Nm e (acc c k) (acc c k) nx) (hx : NxOk c (k + 1) nx) : SOut c (C5 c k 8 .nil true id false) e (rem c k 4) := by
  refine step_mach (m := .release ⟨o0⟩) hk ((mach_gen hk).trans (by kernel_rfl)) rfl ?_
  refine (release_ok hc hb.o).mono fun o ⟨h1, h2, m, h3, hm⟩ => ⟨fun h => (by rw [h1] at h; cases h), fun _ => ?_⟩
  rw [h2, h3]
  refine .some_ ?_
  have ha := (acc_sp c k).1
  have hz := rel_nm hc hb.o hn hm
  have hb' := hb.low hc ha.2.2 (a := 1) (by have := hc.h; omega) hm
  unfold clientClientAfter
  refine Good.guard (k_in hk) fun _ => Good.guard rfl fun _ => Good.guard rfl fun _ => Good.guard rfl fun _ => Good.guard rfl fun _ => Good.ite (fun h => absurd (show (8 : Int) = 3 from h) (by decide)) fun _ => Good.ite (fun h => absurd (show (8 : Int) = 6 from h) (by decide)) fun _ => Good.guard rfl fun _ => Good.guard rfl fun _ => ?_
  rw [← hq] at hb'
  have hz1 := hz.1
  rw [← hq] at hz1
  exact (next_out hk hc.sn (r := 4) (by decide) hb' hz1 hx hz.2).bind fun o ho => .some_ ho
theorem nine_out (hc : CfOk c) {j : Int} {r : Nat} (hr : (if j + 1 < c.classes then 3 - (j + 1).toNat else 0) < r) (hr1 : 1 ≤ r) (hj : 0 ≤ j ∧ j < c.classes) (ha : Ac c k) (hb : EB c e (k + 1) (k + 1)) (hn : Nm e (k + 1) (k + 1) (k + 1)) (h0 : cel e.m 1 = 0) :
    Good (stepD3 (.wake ⟨o0, c.workers, (atK4 c.subs k).level, 1, j, 0⟩) e) (MOut c k 9 k true (rem c k r)) := by
  refine (wake_step hc hb.o hj).mono fun o ⟨h1, m, h3, hm⟩ => ?_
  have hb' := hb.same hm
  have hn' := hn.same hm
  have h0' : cel m 1 = 0 := (cel_same hm).trans h0
  by_cases hlt : j + 1 < c.classes
  · rw [if_pos hlt] at h1 hr
    refine ⟨fun _ => ?_, fun h => (by rw [h1.1] at h; cases h)⟩
    rw [h1.2, h3]
    exact Out.go (Inv.l9w ⟨by omega, hlt⟩ ha hb' hn' h0') hr
  · rw [if_neg hlt] at h1
    refine ⟨fun h => (by rw [h1.1] at h; cases h), fun _ => ?_⟩
    rw [h1.2, h3]
    refine .some_ ?_
    unfold clientClientAfter
    refine Good.guard (k_in ha.s) fun _ => Good.guard rfl fun _ => Good.guard rfl fun _ => Good.guard rfl fun _ => Good.guard rfl fun _ => Good.ite (fun h => absurd (show (9 : Int) = 3 from h) (by decide)) fun _ => Good.ite (fun h => absurd (show (9 : Int) = 6 from h) (by decide)) fun _ => Good.ite (fun h => absurd (show (9 : Int) = 8 from h) (by decide)) fun _ => Good.guard rfl fun _ => ?_
    have hq := (acc_ac ha).2
    have ht := ha.t
    rw [← hq] at hb' hn'
    exact (next_out ha.s hc.sn (r := r) hr1 hb' hn' ⟨Int.le_refl _, by rw [hq]; omega, .inl rfl⟩ h0').bind fun o ho => .some_ ho
theorem st_over {x : ClientV MV} (h : Fin c x e) : SOut c x e 1 := by
  have h1 := h.1
  unfold SOut clientClientStep clientClientOver
  rw [obind]
  refine Good.guard ?_ fun _ => .some_ ⟨fun _ => h, fun hd => by cases hd⟩
  exact decide_eq_true (by rw [h1.1, h1.2]; omega)
end
/-- Every step. -/
theorem step_ok {c : Cfg} (hc : CfOk c) {x : ClientV MV} {e : EnvP} {μ : Nat} (h : Inv c x e μ) : SOut c x e μ := by
  have hkc := hc.k
  cases h with
  | over h => exact st_over h
  | l1 hk hb hn hx h0 => exact st_l1 hc hk hb hn hx h0
  | l1b hk hb hn hx h0 => exact st_l1b hc hk hb hn hx h0
  | l2 hk hb hn hx => exact st_l2 hc hk hb hn hx
  | l3 hk hh hb hn hx => exact st_l3 hc hk hh hb hn hx
  | l4 ha hb hn hr => exact st_l4 hc ha hb hn hr
  | l5 ha hb hn hr hl => exact st_l5 hc ha hb hn hr hl
  | l6 ha hb hn hr hl => exact st_l6 hc ha hb hn hr hl
  | i2 ha hb hn hr hl => exact st_i2 hc ha hb hn hr hl
  | i3 hp ha hb hn hr hl => exact st_i3 hc hp ha hb hn hr hl
  | i4 hp ha hb hn hr hl => exact st_i4 hc hp ha hb hn hr hl
  | i5 hp ha hb hn hr hl => exact st_i5 hc hp ha hb hn hr hl
  | i6 ha hb hn hr hl => exact st_i6 hc ha hb hn hr hl
  | l7 ha hb hn hr hl => exact st_l7 hc ha hb hn hr hl
  | l8a ha hb hn => exact st_l8a hc ha hb hn
  | l8r hk hq hb hn hx => exact st_l8r hc hk hq hb hn hx
  | l9 ha hb hn h0 => exact step_mach (m := .wake ⟨o0, c.workers, (atK4 c.subs _).level, 1, 0, 0⟩) ha.s ((mach_gen ha.s).trans (by kernel_rfl)) rfl (nine_out hc (by split <;> omega) (by decide) (by omega) ha hb hn h0)
  | l9w hj ha hb hn h0 => exact step_in ha.s rfl (nine_out hc (by split <;> omega) (by omega) (by omega) ha hb hn h0)
end
section
open Go
theorem short_good (b : List Int) (l : List (List Int)) (hl : l.length ≤ 1000000) : Good (kshort b l) fun o => o.1.1 = true → b.length ≤ 400 ∧ ∀ x ∈ l, x.length ≤ 400 := by
  unfold kshort
  refine Good.bind (P := fun z => (∀ o, z = .inr o → o.1.1 = false) ∧ (∀ y, z = .inl y → ∀ x ∈ l, x.length ≤ 400)) (lp_good (fun x => 0 ≤ x.1 ∧ x.1 ≤ (l.length : Int) ∧ ∀ i : Nat, (i : Int) < x.1 → ∀ y, l[i]? = some y → y.length ≤ 400) (fun x => ((l.length : Int) - x.1).toNat) (fun self x ⟨q0, q1, q2⟩ ih => ?_) _ _ ⟨Int.le_refl 0, by show (0 : Int) ≤ (l.length : Int); omega, fun i hi => by omega⟩ (by show ((l.length : Int) - 0).toNat < _; omega)) fun z hz => ?_
  rotate_left
  · have e2 : wi (x.1 + 1) = x.1 + 1 := wi_id (rg_lit (by omega))
    rw [e2]
    refine Good.ite (fun hlt => .guard ⟨q0, hlt⟩ fun _ => Good.ite (fun _ => .some_ ⟨fun o e => (by cases e; rfl), fun y e => (by cases e)⟩) fun h4 => ih _ ⟨by show 0 ≤ x.1 + 1; omega, by show x.1 + 1 ≤ (l.length : Int); omega, fun i hi y hy => ?_⟩ (by show ((l.length : Int) - (x.1 + 1)).toNat < ((l.length : Int) - x.1).toNat; omega)) fun hlt => .some_ ⟨fun o e => (by cases e), fun y e x' hx' => ?_⟩
    · by_cases hi2 : (i : Int) < x.1
      · exact q2 i hi2 y hy
      · have hi3 : i = x.1.toNat := by have : (i : Int) < x.1 + 1 := hi; omega
        have h5 := atL_get (d := ([] : List Int)) (xs := l) (i := x.1) ⟨q0, hlt⟩
        rw [hi3, h5] at hy
        cases hy
        omega
    · obtain ⟨i, hi, rfl⟩ := List.getElem_of_mem hx'
      exact q2 i (by omega) _ (List.getElem?_eq_getElem hi)
  · rcases z with y | o
    · refine .some_ fun e => ⟨?_, hz.2 y rfl⟩
      have : ((b.length : Nat) : Int) ≤ 400 := of_decide_eq_true e
      omega
    · exact .some_ fun e => by rw [hz.1 o rfl] at e; cases e
structure DecOk (c : Cfg) : Prop where
  w : 1 ≤ c.workers ∧ c.workers ≤ 4
  l : 1 ≤ c.levels ∧ c.levels ≤ 4
  k : 1 ≤ c.classes ∧ c.classes ≤ 3 ∧ c.classes ≤ c.levels
  t : 1 ≤ c.tasks ∧ c.tasks ≤ 12
  q : 1 ≤ c.deque ∧ c.deque ≤ 4
  h : 1 ≤ c.heap ∧ c.heap ≤ 4
  b : 1 ≤ c.batch ∧ c.batch ≤ c.deque
  a : 0 ≤ c.age ∧ c.age ≤ 5
  p : 1 ≤ c.patience ∧ c.patience ≤ 8
  pn : 1 ≤ c.progs.length ∧ c.progs.length ≤ 4
  pl : ∀ x ∈ c.progs, x.length ≤ 5
  ps : ∀ x ∈ c.progs, ∀ i ∈ x, (i.op = 0 ∧ 1 ≤ i.a ∧ i.a ≤ 4 ∧ i.b = 0) ∨ (i.op = 1 ∧ 0 ≤ i.a ∧ i.a < (c.progs.length : Int) ∧ 0 ≤ i.b ∧ i.b < c.levels) ∨ (i.op = 2 ∧ 0 ≤ i.a ∧ i.a ≤ 3 ∧ i.b = 0)
  sn : c.subs.length ≤ 5
  ss : ∀ s ∈ c.subs, (0 ≤ s.prog ∧ s.prog < (c.progs.length : Int)) ∧ (0 ≤ s.level ∧ s.level < c.levels) ∧ 0 ≤ s.deadline ∧ s.deadline ≤ 15
/-- The bytes of a coder are bytes, its place is near. -/
structure CodOk (N : Int) (r : CodV) : Prop where
  by_ : ∀ x ∈ r.inn, 0 ≤ x ∧ x ≤ 255
  ln : r.inn.length ≤ 1000000
  at_ : 0 ≤ r.at_ ∧ r.at_ ≤ N
theorem num_good {N : Int} {r : CodV} {k : Int} (h : CodOk N r) (hN : N ≤ 1000000) (h1 : 1 ≤ k) (h2 : k ≤ 1000) : Good (r5number r k) fun o => (0 ≤ o.1.1 ∧ o.1.1 < k) ∧ CodOk (N + 1) o.2.1 := by
  have ha := h.at_
  have e1 : wi (r.at_ + 1) = r.at_ + 1 := wi_id (rg_lit (by omega))
  unfold r5number
  rw [e1]
  refine Good.ite (fun hlt => .guard ⟨ha.1, hlt⟩ fun _ => .guard (by omega) fun _ => .some_ ⟨?_, h.by_, h.ln, by show 0 ≤ r.at_ + 1; omega, by show r.at_ + 1 ≤ N + 1; omega⟩) fun _ => .some_ ⟨⟨Int.le_refl 0, by show (0 : Int) < k; omega⟩, h.by_, h.ln, by show 0 ≤ r.at_ + 1; omega, by show r.at_ + 1 ≤ N + 1; omega⟩
  have hb := h.by_ _ (at_in (d := dfR 17) (xs := r.inn) (i := r.at_) ⟨ha.1, hlt⟩)
  have e2 : wi (atK17 r.inn r.at_) = atK17 r.inn r.at_ := wi_id (rg_lit (x := atK17 r.inn r.at_) ⟨by have := hb.1; exact Int.le_trans (by decide) this, by have := hb.2; exact Int.le_trans this (by decide)⟩)
  rw [e2]
  exact tmod_lt h1 hb.1
theorem CodOk.up {N M : Int} {r : CodV} (h : CodOk N r) (hl : N ≤ M) : CodOk M r := ⟨h.by_, h.ln, h.at_.1, by have := h.at_; omega⟩
def InsOk (n lv : Int) (i : Ins) : Prop := (i.op = 0 ∧ 1 ≤ i.a ∧ i.a ≤ 4 ∧ i.b = 0) ∨ (i.op = 1 ∧ 0 ≤ i.a ∧ i.a < n ∧ 0 ≤ i.b ∧ i.b < lv) ∨ (i.op = 2 ∧ 0 ≤ i.a ∧ i.a ≤ 3 ∧ i.b = 0)
def SubOk (n lv : Int) (s : Sub) : Prop := (0 ≤ s.prog ∧ s.prog < n) ∧ (0 ≤ s.level ∧ s.level < lv) ∧ 0 ≤ s.deadline ∧ s.deadline ≤ 15
/-- The numbers of a configuration under construction. -/
structure NumOk (c : Cfg) : Prop where
  w : 1 ≤ c.workers ∧ c.workers ≤ 4
  l : 1 ≤ c.levels ∧ c.levels ≤ 4
  k : 1 ≤ c.classes ∧ c.classes ≤ 3 ∧ c.classes ≤ c.levels
  t : 1 ≤ c.tasks ∧ c.tasks ≤ 12
  q : 1 ≤ c.deque ∧ c.deque ≤ 4
  h : 1 ≤ c.heap ∧ c.heap ≤ 4
  b : 1 ≤ c.batch ∧ c.batch ≤ c.deque
  a : 0 ≤ c.age ∧ c.age ≤ 5
  p : 1 ≤ c.patience ∧ c.patience ≤ 8
theorem w1p {x : Int} (h : 0 ≤ x) (h2 : x ≤ 1000000) : wi (1 + x) = 1 + x := wi_id (rg_lit (by omega))
theorem decode_good {b : List Int} (hb : ∀ x ∈ b, 0 ≤ x ∧ x ≤ 255) (hl : b.length ≤ 1000000) : Good (r5decode b) fun o => DecOk o.1.1 := by
  unfold r5decode
  refine (num_good (N := 0) (k := 4) ⟨hb, hl, Int.le_refl 0, Int.le_refl 0⟩ (by decide) (by decide) (by decide)).bind fun r1 h1 => ?_
  refine (num_good (k := 4) h1.2 (by decide) (by decide) (by decide)).bind fun r2 h2 => ?_
  have w1 := w1p h1.1.1 (by omega)
  have w2 := w1p h2.1.1 (by omega)
  rw [w1, w2]
  refine (num_good h2.2 (by decide) (by split <;> omega) (by split <;> omega)).bind fun r3 h3 => ?_
  refine (num_good (k := 12) h3.2 (by decide) (by decide) (by decide)).bind fun r4 h4 => ?_
  refine (num_good (k := 4) h4.2 (by decide) (by decide) (by decide)).bind fun r5 h5 => ?_
  refine (num_good (k := 4) h5.2 (by decide) (by decide) (by decide)).bind fun r6 h6 => ?_
  have h3' : r3.1.1 < 3 ∧ r3.1.1 < 1 + r2.1.1 := by
    have := h3.1.2
    split at this <;> omega
  have w3 := w1p h3.1.1 (by omega)
  have w4 := w1p h4.1.1 (by omega)
  have w5 := w1p h5.1.1 (by omega)
  have w6 := w1p h6.1.1 (by omega)
  rw [w3, w4, w5, w6]
  refine (num_good h6.2 (by decide) (by omega) (by omega)).bind fun r7 h7 => ?_
  refine (num_good (k := 6) h7.2 (by decide) (by decide) (by decide)).bind fun r8 h8 => ?_
  refine (num_good (k := 8) h8.2 (by decide) (by decide) (by decide)).bind fun r9 h9 => ?_
  refine (num_good (k := 4) h9.2 (by decide) (by decide) (by decide)).bind fun r10 h10 => ?_
  have w7 := w1p h7.1.1 (by omega)
  have w9 := w1p h9.1.1 (by omega)
  have w10 := w1p h10.1.1 (by omega)
  rw [w7, w9, w10]
  refine Good.bind (P := fun z => CodOk 1000 z.2.1 ∧ NumOk z.2.2.1 ∧ z.2.2.1.levels = 1 + r2.1.1 ∧ (z.2.2.1.progs.length : Int) = 1 + r10.1.1 ∧ (∀ p ∈ z.2.2.1.progs, p.length ≤ 5 ∧ ∀ i ∈ p, InsOk (1 + r10.1.1) (1 + r2.1.1) i) ∧ z.2.2.1.subs = [])
    (lp_good (fun x => 0 ≤ x.1 ∧ x.1 ≤ 1 + r10.1.1 ∧ CodOk (10 + 30 * x.1) x.2.1 ∧ NumOk x.2.2.1 ∧ x.2.2.1.levels = 1 + r2.1.1 ∧ (x.2.2.1.progs.length : Int) = x.1 ∧ (∀ p ∈ x.2.2.1.progs, p.length ≤ 5 ∧ ∀ i ∈ p, InsOk (1 + r10.1.1) (1 + r2.1.1) i) ∧ x.2.2.1.subs = [])
      (fun x => (1 + r10.1.1 - x.1).toNat) (fun self x ⟨q0, q1, q2, q3, q4, q5, q6, q7⟩ ih => ?step) _ _ ⟨Int.le_refl 0, by show (0 : Int) ≤ 1 + r10.1.1; omega, h10.2, ?num, rfl, rfl, fun p hp => (by cases hp), rfl⟩ (by show (1 + r10.1.1 - 0).toNat < _; omega)) fun z hz => ?cont
  case step =>
    have f1 : wi (x.1 + 1) = x.1 + 1 := wi_id (rg_lit (by omega))
    refine Good.ite (fun hlt => ?_) fun hlt => .some_ ⟨q2.up (by omega), q3, q4, by show (x.2.2.1.progs.length : Int) = _; omega, q6, q7⟩
    have hlen : (x.2.2.1.progs.length : Int) < 10 := by omega
    rw [f1]
    refine (num_good (k := 6) q2 (by omega) (by decide) (by decide)).bind fun r14 h14 => ?_
    refine Good.bind (P := fun z => z.1.length ≤ 5 ∧ (∀ i ∈ z.1, InsOk (1 + r10.1.1) (1 + r2.1.1) i) ∧ CodOk (10 + 30 * x.1 + 26) z.2.2.1)
      (lp_good (fun y => 0 ≤ y.2.1 ∧ (y.1.length : Int) + y.2.1 = r14.1.1 ∧ CodOk (10 + 30 * x.1 + 1 + 5 * (r14.1.1 - y.2.1)) y.2.2.1 ∧ ∀ i ∈ y.1, InsOk (1 + r10.1.1) (1 + r2.1.1) i)
        (fun y => y.2.1.toNat) (fun self y ⟨p0, p1, p2, p3⟩ ih => ?_) _ _ ⟨h14.1.1, by show ((0 : Nat) : Int) + r14.1.1 = _; omega, h14.2.up (by show 10 + 30 * x.1 + 1 ≤ 10 + 30 * x.1 + 1 + 5 * (r14.1.1 - r14.1.1); omega), fun i hi => (by cases hi)⟩ (by show r14.1.1.toNat < _; omega)) fun z hz => ?_
    · refine .guard (by show (((x.2.2.1.progs.length + 1 : Nat)) : Int) < _; omega) fun _ => ih _ ⟨by show 0 ≤ x.1 + 1; omega, by show x.1 + 1 ≤ _; omega, hz.2.2.up (by show 10 + 30 * x.1 + 26 ≤ 10 + 30 * (x.1 + 1); omega), ⟨q3.w, q3.l, q3.k, q3.t, q3.q, q3.h, q3.b, q3.a, q3.p⟩, q4, ?_, ?_, q7⟩ ?_
      · show (((x.2.2.1.progs ++ [z.1]).length : Nat) : Int) = x.1 + 1
        rw [List.length_append, List.length_singleton]; omega
      · intro p hp
        rcases List.mem_append.1 hp with hp | hp
        · exact q6 p hp
        · rw [List.mem_singleton] at hp; subst hp; exact ⟨hz.1, hz.2.1⟩
      · show (1 + r10.1.1 - (x.1 + 1)).toNat < (1 + r10.1.1 - x.1).toNat
        omega
    · have f2 : wi (y.2.1 - 1) = y.2.1 - 1 := wi_id (rg_lit (by omega))
      have hyl : y.1.length ≤ 5 := by omega
      refine Good.ite (fun hlt2 => ?_) fun hlt2 => .some_ ⟨hyl, p3, p2.up (by omega)⟩
      rw [f2, q4]
      have nx : ∀ (u : Ins) (r : CodV), InsOk (1 + r10.1.1) (1 + r2.1.1) u → CodOk (10 + 30 * x.1 + 1 + 5 * (r14.1.1 - (y.2.1 - 1))) r → Good (if (((y.1.length + ([u] : List Ins).length : Nat)) : Int) < 1000000000000 then self (y.1 ++ [u], y.2.1 - 1, r, ()) else none) fun z => z.1.length ≤ 5 ∧ (∀ i ∈ z.1, InsOk (1 + r10.1.1) (1 + r2.1.1) i) ∧ CodOk (10 + 30 * x.1 + 26) z.2.2.1 := fun u r hu hr =>
        .guard (by show (((y.1.length + 1 : Nat)) : Int) < _; omega) fun _ => ih _ ⟨by show 0 ≤ y.2.1 - 1; omega, by
          show (((y.1 ++ [u]).length : Nat) : Int) + (y.2.1 - 1) = _
          rw [List.length_append, List.length_singleton]; omega, hr, fun i hi => by
          rcases List.mem_append.1 hi with hi | hi
          · exact p3 i hi
          · rw [List.mem_singleton] at hi; subst hi; exact hu⟩ (by show (y.2.1 - 1).toNat < y.2.1.toNat; omega)
      refine (num_good (k := 3) p2 (by omega) (by decide) (by decide)).bind fun r18 h18 => ?_
      refine Good.ite (fun e0 => ?_) fun e0 => Good.ite (fun e1 => ?_) fun e1 => ?_
      · refine (num_good (k := 4) h18.2 (by omega) (by decide) (by decide)).bind fun r19 h19 => ?_
        rw [w1p h19.1.1 (by omega)]
        exact nx _ _ (.inl ⟨e0, by show 1 ≤ 1 + r19.1.1; omega, by show 1 + r19.1.1 ≤ 4; omega, rfl⟩) (h19.2.up (by omega))
      · refine (num_good (k := 1 + r10.1.1) h18.2 (by omega) (by omega) (by omega)).bind fun r20 h20 => ?_
        refine (num_good (k := 1 + r2.1.1) h20.2 (by omega) (by omega) (by omega)).bind fun r21 h21 => ?_
        exact nx _ _ (.inr (.inl ⟨e1, h20.1.1, h20.1.2, h21.1.1, h21.1.2⟩)) (h21.2.up (by omega))
      · refine (num_good (k := 4) h18.2 (by omega) (by decide) (by decide)).bind fun r22 h22 => ?_
        exact nx _ _ (.inr (.inr ⟨by show r18.1.1 = 2; omega, h22.1.1, by show r22.1.1 ≤ 3; omega, rfl⟩)) (h22.2.up (by omega))
  case num =>
    refine ⟨?_, ?_, ?_, ?_, ?_, ?_, ?_, ?_, ?_⟩
    · exact ⟨by show 1 ≤ 1 + r1.1.1; omega, by show 1 + r1.1.1 ≤ 4; omega⟩
    · exact ⟨by show 1 ≤ 1 + r2.1.1; omega, by show 1 + r2.1.1 ≤ 4; omega⟩
    · exact ⟨by show 1 ≤ 1 + r3.1.1; omega, by show 1 + r3.1.1 ≤ 3; omega, by show 1 + r3.1.1 ≤ 1 + r2.1.1; omega⟩
    · exact ⟨by show 1 ≤ 1 + r4.1.1; omega, by show 1 + r4.1.1 ≤ 12; omega⟩
    · exact ⟨by show 1 ≤ 1 + r5.1.1; omega, by show 1 + r5.1.1 ≤ 4; omega⟩
    · exact ⟨by show 1 ≤ 1 + r6.1.1; omega, by show 1 + r6.1.1 ≤ 4; omega⟩
    · exact ⟨by show 1 ≤ 1 + r7.1.1; omega, by show 1 + r7.1.1 ≤ 1 + r5.1.1; omega⟩
    · exact ⟨h8.1.1, by show r8.1.1 ≤ 5; omega⟩
    · exact ⟨by show 1 ≤ 1 + r9.1.1; omega, by show 1 + r9.1.1 ≤ 8; omega⟩
  case cont =>
    obtain ⟨g1, g2, g3, g4, g5, g6⟩ := hz
    refine (num_good (k := 6) g1 (by decide) (by decide) (by decide)).bind fun r23 h23 => ?_
    refine Good.bind (P := fun y => DecOk y.2.2.1)
      (lp_good (fun y => 0 ≤ y.1 ∧ (y.2.2.1.subs.length : Int) + y.1 = r23.1.1 ∧ CodOk (1001 + 5 * (r23.1.1 - y.1)) y.2.1 ∧ NumOk y.2.2.1 ∧ y.2.2.1.levels = 1 + r2.1.1 ∧ (y.2.2.1.progs.length : Int) = 1 + r10.1.1 ∧ (∀ p ∈ y.2.2.1.progs, p.length ≤ 5 ∧ ∀ i ∈ p, InsOk (1 + r10.1.1) (1 + r2.1.1) i) ∧ ∀ s ∈ y.2.2.1.subs, SubOk (1 + r10.1.1) (1 + r2.1.1) s)
        (fun y => y.1.toNat) (fun self y ⟨p0, p1, p2, p3, p4, p5, p6, p7⟩ ih => ?_) _ _ ⟨h23.1.1, by show ((z.2.2.1.subs.length : Nat) : Int) + r23.1.1 = r23.1.1; rw [g6]; show ((0 : Nat) : Int) + r23.1.1 = r23.1.1; omega, h23.2.up (by show (1001 : Int) ≤ 1001 + 5 * (r23.1.1 - r23.1.1); omega), g2, g3, g4, g5, fun s hs => by
          have hs2 : s ∈ z.2.2.1.subs := hs
          rw [g6] at hs2; cases hs2⟩ (by show r23.1.1.toNat < _; omega)) fun y hy => .some_ hy
    have f2 : wi (y.1 - 1) = y.1 - 1 := wi_id (rg_lit (by omega))
    have hyl : y.2.2.1.subs.length ≤ 5 := by omega
    refine Good.ite (fun hlt => ?_) fun hlt => .some_ ⟨p3.w, p3.l, p3.k, p3.t, p3.q, p3.h, p3.b, p3.a, p3.p, by show 1 ≤ y.2.2.1.progs.length ∧ y.2.2.1.progs.length ≤ 4; omega, fun x hx => (p6 x hx).1, fun x hx i hi => by
      have := (p6 x hx).2 i hi
      rw [p5, p4]; exact this, hyl, fun s hs => by
      have := p7 s hs
      rw [p5, p4]; exact this⟩
    rw [f2, p4]
    refine (num_good (k := 1 + r10.1.1) p2 (by omega) (by omega) (by omega)).bind fun r27 h27 => ?_
    refine (num_good (k := 1 + r2.1.1) h27.2 (by omega) (by omega) (by omega)).bind fun r28 h28 => ?_
    refine (num_good (k := 16) h28.2 (by omega) (by omega) (by omega)).bind fun r29 h29 => ?_
    refine .guard (by show (((y.2.2.1.subs.length + 1 : Nat)) : Int) < _; omega) fun _ => ih _ ⟨by show 0 ≤ y.1 - 1; omega, ?_, h29.2.up (by show 1001 + 5 * (r23.1.1 - y.1) + 1 + 1 + 1 ≤ 1001 + 5 * (r23.1.1 - (y.1 - 1)); omega), ⟨p3.w, p3.l, p3.k, p3.t, p3.q, p3.h, p3.b, p3.a, p3.p⟩, p4, p5, p6, ?_⟩ (by show (y.1 - 1).toNat < y.1.toNat; omega)
    · show (((y.2.2.1.subs ++ [_]).length : Nat) : Int) + (y.1 - 1) = _
      rw [List.length_append, List.length_singleton]; omega
    · intro s hs
      rcases List.mem_append.1 hs with hs | hs
      · exact p7 s hs
      · rw [List.mem_singleton] at hs; subst hs
        exact ⟨h27.1, h28.1, h29.1.1, by show r29.1.1 ≤ 15; omega⟩
end
section
open Go
theorem valid_of {c : Cfg} (h : DecOk c) {t hp' : Int} (ht : 1 ≤ t ∧ t ≤ 12) (hh : 1 ≤ hp' ∧ hp' ≤ 8) : cfgErr { c with tasks := t, heap := hp' } = 0 := by
  have hp : ∀ ps : List (List Ins), (∀ x ∈ ps, x ∈ c.progs) → progsErr c.levels c.progs.length ps = 0 := fun ps => by
    induction ps with
    | nil => intro _; rfl
    | cons p ps ih =>
      intro hm
      have h1 := h.pl p (hm p (List.mem_cons_self ..))
      unfold progsErr
      rw [if_neg (by omega), if_pos]
      · exact ih fun x hx => hm x (List.mem_cons_of_mem _ hx)
      · refine List.all_eq_true.2 fun i hi => ?_
        have h2 := h.ps p (hm p (List.mem_cons_self ..)) i hi
        unfold insOk
        rcases h2 with ⟨a, b, d, e⟩ | ⟨a, b, d, e, f⟩ | ⟨a, b, d, e⟩
        · rw [if_pos a]; simp only [inB, e, Bool.and_eq_true, decide_eq_true_eq, beq_self_eq_true, and_true]; omega
        · rw [if_neg (by omega), if_pos a]; simp only [inB, Bool.and_eq_true, decide_eq_true_eq]; omega
        · rw [if_neg (by omega), if_neg (by omega), if_pos a]; simp only [inB, e, Bool.and_eq_true, decide_eq_true_eq, beq_self_eq_true, and_true]; omega
  have hs : ∀ ss : List Sub, (∀ x ∈ ss, x ∈ c.subs) → subsErr c.levels c.progs.length ss = 0 := fun ss => by
    induction ss with
    | nil => intro _; rfl
    | cons s ss ih =>
      intro hm
      have h1 := h.ss s (hm s (List.mem_cons_self ..))
      have e : subErr c.levels c.progs.length s = 0 := by
        unfold subErr
        have e1 : inB s.prog 0 ((c.progs.length : Int) - 1) = true := by simp only [inB, Bool.and_eq_true, decide_eq_true_eq]; omega
        have e2 : inB s.level 0 (c.levels - 1) = true := by simp only [inB, Bool.and_eq_true, decide_eq_true_eq]; omega
        have e3 : inB s.deadline 0 16777215 = true := by simp only [inB, Bool.and_eq_true, decide_eq_true_eq]; omega
        rw [e1, e2, e3]; rfl
      unfold subsErr
      rw [if_pos e]
      exact ih fun x hx => hm x (List.mem_cons_of_mem _ hx)
  have hn : numsOk { c with tasks := t, heap := hp' } = true := by
    have := h.w; have := h.l; have := h.k; have := h.t; have := h.q; have := h.h; have := h.b; have := h.a; have := h.p
    simp only [numsOk, inB, Bool.and_eq_true, decide_eq_true_eq]
    have e : (if c.levels < 8 then c.levels else 8) = c.levels := if_pos (by omega)
    rw [e]
    omega
  have hpa : progsAll { c with tasks := t, heap := hp' } = 0 := by
    have := h.pn
    unfold progsAll
    have e : inB (c.progs.length : Int) 1 32 = true := by simp only [inB, Bool.and_eq_true, decide_eq_true_eq]; omega
    rw [e]
    exact hp c.progs fun _ hx => hx
  have hsa : subsAll { c with tasks := t, heap := hp' } = 0 := by
    have := h.sn
    unfold subsAll
    rw [if_neg (show ¬ 64 < c.subs.length by omega)]
    exact hs c.subs fun _ hx => hx
  unfold cfgErr
  rw [hn, hpa]
  exact hsa
theorem config_good {b : List Int} (hb : ∀ x ∈ b, 0 ≤ x ∧ x ≤ 255) (hl : b.length ≤ 1000000) : Good (kconfig b) fun o => DecOk o.1.1 := by
  have := decode_good hb hl
  unfold kconfig
  refine this.bind fun o ho => .some_ ?_
  exact ho
end
section
open Go Go.RowKit
set_option maxRecDepth 100000
theorem Good.map {α β : Type} {f : α → β} {o : Option α} {P : β → Prop} (h : Good o fun x => P (f x)) : Good (Option.map f o) P := by
  obtain ⟨x, rfl, hx⟩ := h
  exact ⟨f x, rfl, hx⟩
theorem dec_cf {c : Cfg} (h : DecOk c) {t hp : Int} (ht : 1 ≤ t ∧ t ≤ 12) (hh : 1 ≤ hp ∧ hp ≤ 8) : CfOk { c with tasks := t, heap := hp } :=
  ⟨valid_of h ht hh, h.w, h.l, ⟨h.k.1, h.k.2.1⟩, ht, h.q, hh, h.sn, fun s hs => (h.ss s hs).2⟩
theorem rep0 {n : Nat} {a : Int} : atK0 (List.replicate n 0) a = 0 := by
  show ((List.replicate n (0 : Int))[a.toNat]?).getD _ = 0
  rw [List.getElem?_replicate]
  split <;> rfl
theorem acc0 {c : Cfg} (hc : CfOk c) : acc c ((0 : Nat) : Int) = 0 := by
  have := hc.h; have := hc.t
  unfold acc cap
  split <;> split <;> omega
theorem env0 {c : Cfg} (hc : CfOk c) : EB c (envV c) 0 0 ∧ Nm (envV c) 0 0 0 ∧ cel (envV c).m 1 = 0 := by
  have htb := tab_rg hc
  have h1 := hc.h; have h2 := hc.k; have h3 := hc.t
  refine ⟨⟨⟨rfl, rfl, ?_, ?_, fun s _ => rep0, fun r hr => by rw [List.eq_of_mem_replicate hr]; rfl⟩, rfl, fun t ht => by omega⟩, ⟨rep0, rep0, rep0⟩, rep0⟩
  · show ((List.replicate (cellsN c).toNat (0 : Int)).length : Int) = cellsN c
    rw [List.length_replicate]; omega
  · show ((List.replicate c.tasks.toNat rec0).length : Int) = c.tasks
    rw [List.length_replicate]; omega
theorem cnew_eq {c : Cfg} (hc : CfOk c) : clientNew c = some ((C5 c 0 1 .nil true 0 false, ()), ()) := by
  unfold clientNew
  rw [clone_eq (.of hc.v), obind, if_pos rfl]
  rfl
abbrev AlB (R : Type) := (Int × EnvP × ClientV MV × Unit) ⊕ R
/-- The client alone comes to its end. -/
theorem alone_good {R : Type} {c : Cfg} (hc : CfOk c) {P : R → Prop} {T : ((Bool × Unit) × (ClientV MV × EnvP × Unit)) → ((Int × Int × Unit) × (ClientV MV × Unit)) → Option R} (hT : ∀ r q, Fin c r.2.1 r.2.2.1 → q.2.1 = r.2.1 → Good (T r q) P) {x0 : ClientV MV} {e0 : EnvP} {μ : Nat} (h : Inv c x0 e0 μ) (hμ : μ ≤ 399) :
    Good (lpF (σ := Int × EnvP × ClientV MV × Unit) (β := AlB R) (fun self x14 => if x14.1 < 400 then (clientClientStep x14.2.2.1 x14.2.1).bind fun r17 => if r17.1.1 = true then (clientClientResult r17.2.1).bind fun r18 => Option.map Sum.inr (T r17 r18) else self (wi (x14.1 + 1), r17.2.2.1, r17.2.1, ()) else some (Sum.inl (x14.1, x14.2.1, x14.2.2.1, ()))) 18446744073709551616 (0, e0, x0, ())) fun z => ∃ o, z = .inr o ∧ P o := by
  refine lp_good (fun x => ∃ μ : Nat, Inv c x.2.2.1 x.2.1 μ ∧ 0 ≤ x.1 ∧ x.1 + (μ : Int) ≤ 399) (fun x => (400 - x.1).toNat) (fun self x hx ih => ?_) _ _ ⟨μ, h, Int.le_refl 0, by show (0 : Int) + (μ : Int) ≤ 399; omega⟩ (by show ((400 : Int) - 0).toNat < _; decide)
  obtain ⟨t, e, y, u⟩ := x
  obtain ⟨ν, hi, h0, h1⟩ := hx
  simp only at hi h0 h1
  refine Good.guard (show t < 400 by omega) fun _ => (step_ok hc hi).bind fun r hr => ?_
  refine Good.ite (fun hd => ?_) fun hd => ?_
  · refine Good.bind (P := fun q => q.2.1 = r.2.1) (.some_ rfl) fun q hq => Good.map ((hT r q (hr.1 hd) hq).mono fun o ho => ⟨o, rfl, ho⟩)
  · obtain ⟨ν', hv, hi'⟩ := hr.2 (by simpa using hd)
    have e1 : wi (t + 1) = t + 1 := wi_id (rg_lit (by omega))
    show Good (self (wi (t + 1), r.2.2.1, r.2.1, ())) _
    rw [e1]
    exact ih _ ⟨ν', hi', by show 0 ≤ t + 1; omega, by show t + 1 + (ν' : Int) ≤ 399; omega⟩ (by show (400 - (t + 1)).toNat < (400 - t).toNat; omega)
theorem awake27 : worksteallaw27Awake = some ((true, ()), ()) := by kernel_rfl
end
section
open Go Go.RowKit
set_option maxRecDepth 100000
theorem init_inv {c : Cfg} (hc : CfOk c) : ∃ μ, μ ≤ 399 ∧ Inv c (C5 c 0 1 .nil true 0 false) (envV c) μ := by
  obtain ⟨hb, hn, h0⟩ := env0 hc
  have ha := acc0 hc
  have hsn := hc.sn
  by_cases hl : 0 < c.subs.length
  · exact ⟨_, by unfold rem; omega, Inv.l1 hl (by rw [ha]; exact hb) (by rw [ha]; exact hn) ⟨by rw [ha]; exact Int.le_refl 0, Int.le_refl 0, .inl ha.symm⟩ h0⟩
  · have hz : c.subs.length = 0 := by omega
    refine ⟨1, by decide, Inv.over ?_⟩
    unfold Fin
    rw [hz, ha]
    exact ⟨⟨rfl, rfl⟩, hb, hn.sz, h0, rfl⟩
theorem copy_in {c : Cfg} {x : ClientV MV} {e : EnvP} {μ : Nat} (h : Inv c x e μ) : coreCopy x.inside = some ((x.inside, ()), (x.inside, ())) := by
  cases h with
  | over h => rw [h.2.2.2.2]; exact if_pos rfl
  | _ => first | exact if_pos rfl | exact (if_neg (by intro h; cases h)).trans rfl
theorem inv_eb {c : Cfg} {x : ClientV MV} {e : EnvP} {μ : Nat} (h : Inv c x e μ) : ∃ k n, k ≤ c.subs.length ∧ EB c e k n := by
  cases h with
  | over h => exact ⟨_, _, Nat.le_refl _, h.2.1⟩
  | l1 hk hb => exact ⟨_, _, Nat.le_of_lt hk, hb⟩
  | l1b hk hb => exact ⟨_, _, Nat.le_of_lt hk, hb⟩
  | l2 hk hb => exact ⟨_, _, Nat.le_of_lt hk, hb⟩
  | l3 hk _ hb => exact ⟨_, _, Nat.le_of_lt hk, hb⟩
  | l4 ha hb => exact ⟨_, _, Nat.le_of_lt ha.s, hb⟩
  | l5 ha hb => exact ⟨_, _, Nat.le_of_lt ha.s, hb⟩
  | l6 ha hb => exact ⟨_, _, Nat.le_of_lt ha.s, hb⟩
  | i2 ha hb => exact ⟨_, _, Nat.le_of_lt ha.s, hb⟩
  | i3 _ ha hb => exact ⟨_, _, Nat.le_of_lt ha.s, hb⟩
  | i4 _ ha hb => exact ⟨_, _, Nat.le_of_lt ha.s, hb⟩
  | i5 _ ha hb => exact ⟨_, _, Nat.le_of_lt ha.s, hb⟩
  | i6 ha hb => exact ⟨_, _, Nat.le_of_lt ha.s, hb⟩
  | l7 ha hb => exact ⟨_, _, ha.s, hb⟩
  | l8a ha hb => exact ⟨_, _, ha.s, hb⟩
  | l8r hk _ hb => exact ⟨_, _, hk, hb⟩
  | l9 ha hb => exact ⟨_, _, ha.s, hb⟩
  | l9w _ ha hb => exact ⟨_, _, ha.s, hb⟩
theorem recs_loop {E : EnvP} (hk : ∀ r ∈ E.recs, r.kids = []) {n : Nat} (hn : E.recs.length = n) (hl : n ≤ 1000000) : Good (lpF (σ := Int × EnvP × Unit) (β := Int × EnvP × Unit) (fun self8 x6 =>
    if x6.1 < ((n : Nat) : Int) then
     if 0 ≤ x6.1 ∧ x6.1 < ((x6.2.1.recs.length : Nat) : Int) then
      (cloneInts ((atK26 x6.2.1.recs x6.1).kids)).bind fun r9 =>
      if 0 ≤ x6.1 ∧ x6.1 < ((x6.2.1.recs.length : Nat) : Int) then
       self8 (wi (x6.1 + 1), ({ x6.2.1 with recs := x6.2.1.recs.set x6.1.toNat ({ atK26 x6.2.1.recs x6.1 with kids := r9.1.1 } : RecP) } : EnvP), ())
      else none
     else none
    else
    some (x6.1, x6.2.1, ())) 18446744073709551616 (0, E, ())) fun z => z.2.1 = E := by
  refine lp_good (fun x => x.2.1 = E ∧ 0 ≤ x.1 ∧ x.1 ≤ (n : Int)) (fun x => ((n : Int) - x.1).toNat) (fun self x hx ih => ?_) _ _ ⟨rfl, Int.le_refl 0, by show (0 : Int) ≤ n; omega⟩ (by show ((n : Int) - 0).toNat < _; omega)
  obtain ⟨t, e, u⟩ := x
  obtain ⟨hx1, hx2, hx3⟩ := hx
  simp only at hx1 hx2 hx3
  subst hx1
  refine Good.ite (fun hlt => ?_) fun _ => .some_ rfl
  have hlt' : t < (n : Int) := hlt
  have hin : 0 ≤ t ∧ t < ((e.recs.length : Nat) : Int) := ⟨hx2, by omega⟩
  refine Good.guard hin fun _ => ?_
  have hkd : (atK26 e.recs t).kids = [] := hk _ (at_in hin)
  have hc : cloneInts ((atK26 e.recs t).kids) = some (([], ()), ()) := by rw [hkd]; exact if_pos (Nat.zero_le _)
  show Good ((cloneInts ((atK26 e.recs t).kids)).bind _) _
  rw [hc, obind]
  refine Good.guard hin fun _ => ?_
  have e1 : wi (t + 1) = t + 1 := wi_id (rg_lit (by omega))
  have e2 : e.recs.set t.toNat ({ atK26 e.recs t with kids := [] } : RecP) = e.recs := by
    have h1 : ({ atK26 e.recs t with kids := [] } : RecP) = atK26 e.recs t := by
      rw [← hkd]
    rw [h1]
    refine List.ext_getElem? fun i => ?_
    rw [List.getElem?_set]
    by_cases hi : t.toNat = i
    · subst hi
      rw [if_pos rfl, if_pos (by omega)]
      exact (atL_get hin).symm
    · rw [if_neg hi]
  show Good (self (wi (t + 1), { e with recs := e.recs.set t.toNat ({ atK26 e.recs t with kids := [] } : RecP) }, ())) _
  rw [e1, e2]
  exact ih _ ⟨rfl, by show 0 ≤ t + 1; omega, by show t + 1 ≤ (n : Int); omega⟩ (by show ((n : Int) - (t + 1)).toNat < ((n : Int) - t).toNat; omega)
theorem envCopy_eq {e : EnvP} (hc : LenOk e.c) (hm : e.m.cells.length ≤ 1000000) (hr : e.recs.length ≤ 1000000) (hv : e.evs.length ≤ 1000000) (hk : ∀ r ∈ e.recs, r.kids = []) : machineEnvCopy e = some ((e, ()), (e, ())) := by
  have hg : Good (machineEnvCopy e) fun o => o = ((e, ()), (e, ())) := by
    have e1 : memoryMemoryCopy e.m = some ((e.m, ()), (e.m, ())) := by
      unfold memoryMemoryCopy memoryMemoryCells cloneU64
      rw [if_pos hm]; rfl
    have e2 : clockClockCopy e.k = some ((e.k, ()), (e.k, ())) := by unfold clockClockCopy; rfl
    have e3 : cloneRecs e.recs = some ((e.recs, ()), (e.recs, ())) := if_pos hr
    have e4 : cloneEvs e.evs = some ((e.evs, ()), (e.evs, ())) := if_pos hv
    unfold machineEnvCopy
    rw [clone_eq hc, obind, e1, obind, e2, obind, e3, obind, e4, obind]
    simp only [if_true]
    refine (recs_loop (E := e) hk rfl hr).bind fun z hz => .some_ ?_
    rw [hz]
  obtain ⟨o, h1, h2⟩ := hg
  rw [h1, h2]
theorem env_copy {c : Cfg} (hc : CfOk c) {x : ClientV MV} {e : EnvP} {μ : Nat} (h : Inv c x e μ) : machineEnvCopy e = some ((e, ()), (e, ())) := by
  obtain ⟨k, n, hk, hb⟩ := inv_eb h
  have ht := tab_rg hc
  have h1 := hc.t; have h2 := hc.sn
  have h3 := hb.o.en; have h4 := hb.o.er
  refine envCopy_eq (by rw [hb.o.ec]; exact .of hc.v) (by omega) (by omega) ?_ hb.o.kd
  rw [hb.ev, evsOf_len]; omega
theorem status_any (x : ClientV MV) : ∃ k, clientClientStatus x = some ((k, ()), (x, ())) := by
  unfold clientClientStatus clientClientOver
  rw [obind]
  dsimp only
  split
  · exact ⟨_, rfl⟩
  · split <;> exact ⟨_, rfl⟩
theorem copies_true {b : List Int} {s : Int} (hb : ∀ x ∈ b, 0 ≤ x ∧ x ≤ 255) (hs : 0 ≤ s ∧ s ≤ 255) : worksteallaw27ClientCopies b s = some ((true, ()), ()) := by
  have hg : Good (worksteallaw27ClientCopies b s) fun o => o = ((true, ()), ()) := by
    unfold worksteallaw27ClientCopies
    refine (short_good b [] (by decide)).bind fun r1 h1 => Good.ite (fun _ => .some_ rfl) fun hsh => ?_
    have hbl := (h1 (by simpa using hsh)).1
    refine (config_good hb (by omega)).bind fun r2 hd => ?_
    obtain ⟨⟨c, u1⟩, u2⟩ := r2
    have hd' : DecOk c := hd
    have hh4 := hd'.h
    have hc : CfOk c := dec_cf hd' (t := c.tasks) (hp := c.heap) hd'.t (by omega)
    show Good ((machineNew c).bind _) _
    rw [new_eq hc.v, obind]
    show Good ((clientNew c).bind _) _
    rw [cnew_eq hc, obind, awake27, obind]
    refine Good.ite (fun h => absurd (show (!true) = true from h) (by decide)) fun _ => Good.ite (fun h => absurd rfl h) fun _ => ?_
    have e3 : wi s = s := wi_id (rg_lit (by omega))
    rw [e3]
    obtain ⟨μ0, hμ0, hi0⟩ := init_inv hc
    refine Good.bind (P := fun z => ∃ t e x u μ, z = (t, e, x, u) ∧ Inv c x e μ ∧ μ ≤ 399) (lp_good (fun x => (∃ μ : Nat, Inv c x.2.2.1 x.2.1 μ ∧ μ ≤ 399) ∧ 0 ≤ x.1 ∧ x.1 ≤ s) (fun x => (s - x.1).toNat) (fun self x hx ih => ?_) _ _ ⟨⟨μ0, hi0, hμ0⟩, Int.le_refl 0, hs.1⟩ (by show (s - 0).toNat < _; omega)) fun z hz => ?_
    · obtain ⟨t, e, x, u⟩ := x
      obtain ⟨⟨μ, hx1, hx4⟩, hx2, hx3⟩ := hx
      simp only at hx1 hx2 hx3
      refine Good.ite (fun hlt => ?_) fun _ => .some_ ⟨_, _, _, _, μ, rfl, hx1, hx4⟩
      have hlt' : t < s := hlt
      refine (step_ok hc hx1).bind fun r hr => ?_
      have e1 : wi (t + 1) = t + 1 := wi_id (rg_lit (by omega))
      show Good (self (wi (t + 1), r.2.2.1, r.2.1, ())) _
      rw [e1]
      refine ih _ ⟨?_, by show 0 ≤ t + 1; omega, by show t + 1 ≤ s; omega⟩ (by show (s - (t + 1)).toNat < (s - t).toNat; omega)
      by_cases hdn : r.1.1 = true
      · exact ⟨1, .over (hr.1 hdn), by decide⟩
      · obtain ⟨ν, hν, hi⟩ := hr.2 (by simpa using hdn)
        exact ⟨ν, hi, by omega⟩
    · obtain ⟨t, e, x, u, μ, rfl, hi, hμ⟩ := hz
      show Good ((coreCopy x.inside).bind _) _
      rw [copy_in hi, obind]
      show Good ((machineEnvCopy e).bind _) _
      rw [env_copy hc hi, obind]
      have hal : ∀ (y : ClientV MV), y = x → Good (lpF (σ := Int × EnvP × ClientV MV × Unit) (β := AlB (EnvP × Unit)) (fun self x14 => if x14.1 < 400 then (clientClientStep x14.2.2.1 x14.2.1).bind fun r17 => if r17.1.1 = true then (clientClientResult r17.2.1).bind fun r18 => Option.map Sum.inr (some (r17.2.2.1, ())) else self (wi (x14.1 + 1), r17.2.2.1, r17.2.1, ()) else some (Sum.inl (x14.1, x14.2.1, x14.2.2.1, ()))) 18446744073709551616 (0, e, y, ())) fun z => ∃ o, z = .inr o ∧ o.1.evs = evsOf c c.subs.length := by
        rintro y rfl
        exact alone_good hc (P := fun o : EnvP × Unit => o.1.evs = evsOf c c.subs.length) (T := fun r q => some (r.2.2.1, ())) (fun r q hf hq => .some_ hf.2.1.ev) hi hμ
      refine Good.bind (P := fun o => o.1.evs = evsOf c c.subs.length) ((hal x rfl).bind fun z hz => ?_) fun z18 h18 => ?_
      · obtain ⟨o, rfl, ho⟩ := hz
        exact .some_ ho
      obtain ⟨k, hk⟩ := status_any x
      have hlen : ((c.subs.length : Nat) : Int) = ((evsOf c c.subs.length).length : Nat) := by rw [evsOf_len]
      refine Good.bind (P := fun o => o.1 = false ∧ o.2.1 = x ∧ o.2.2.1.evs = evsOf c c.subs.length) ?_ fun z20 h20 => ?_
      · show Good ((clientClientStatus x).bind _) _
        rw [hk, obind]
        refine Good.ite (fun _ => .some_ ⟨decide_eq_false (fun h => h ?_), rfl, h18⟩) fun _ => .some_ ⟨rfl, rfl, h18⟩
        show ((z18.1.evs.length : Nat) : Int) = ((c.subs.length : Nat) : Int)
        rw [h18, hlen]
      obtain ⟨hz1, hz2, hz3⟩ := h20
      refine Good.ite (fun h => by rw [hz1] at h; cases h) fun _ => ?_
      refine Good.bind (P := fun o => o.1.evs = evsOf c c.subs.length) ((hal _ hz2).bind fun z hz => ?_) fun z27 h27 => ?_
      · obtain ⟨o, rfl, ho⟩ := hz
        exact .some_ ho
      refine Good.bind (P := fun o => o.1 = false ∧ o.2.1.evs = evsOf c c.subs.length ∧ o.2.2.1.evs = evsOf c c.subs.length) ?_ fun z28 h28 => ?_
      · refine Good.ite (fun h => absurd (by rw [h27, hz3]) h) fun _ => .some_ ⟨decide_eq_false (fun h => h ?_), h27, hz3⟩
        show ((z27.1.evs.length : Nat) : Int) = ((c.subs.length : Nat) : Int)
        rw [h27, hlen]
      obtain ⟨hw1, hw2, hw3⟩ := h28
      refine Good.ite (fun h => by rw [hw1] at h; cases h) fun _ => ?_
      refine Good.bind (P := fun z => ∃ q, z = .inl q) (lp_good (fun x => x.2.1.evs = evsOf c c.subs.length ∧ x.2.2.1.evs = evsOf c c.subs.length ∧ 0 ≤ x.1) (fun x => (((c.subs.length : Nat) : Int) - x.1).toNat) (fun self x hx ih => ?_) _ _ ⟨hw2, hw3, Int.le_refl 0⟩ (by have := hc.sn; show ((((c.subs.length : Nat) : Int)) - 0).toNat < _; omega)) fun z hz => ?_
      · obtain ⟨t, e1, e2, u⟩ := x
        obtain ⟨hx1, hx2, hx3⟩ := hx
        simp only at hx1 hx2 hx3
        refine Good.ite (fun hlt => ?_) fun _ => .some_ ⟨_, rfl⟩
        have hlt' : t < ((e1.evs.length : Nat) : Int) := hlt
        have hlt2 : t < ((e2.evs.length : Nat) : Int) := by rw [hx2, ← hx1]; exact hlt'
        have hsn := hc.sn
        have hlt3 : t < ((c.subs.length : Nat) : Int) := by rw [hx1, ← hlen] at hlt'; exact hlt'
        refine Good.guard ⟨hx3, hlt'⟩ fun _ => Good.guard ⟨hx3, hlt2⟩ fun _ => ?_
        refine Good.ite (fun h => absurd ?_ h) fun _ => ?_
        · show ((atK2 e1.evs t).kind) = ((atK2 e2.evs t).kind) ∧ _
          rw [hx1, hx2]
          exact ⟨rfl, rfl, rfl, rfl, rfl, trivial⟩
        · have e1' : wi (t + 1) = t + 1 := wi_id (rg_lit (by omega))
          show Good (self (wi (t + 1), e1, e2, ())) _
          rw [e1']
          exact ih _ ⟨hx1, hx2, by show 0 ≤ t + 1; omega⟩ (by show (((c.subs.length : Nat) : Int) - (t + 1)).toNat < (((c.subs.length : Nat) : Int) - t).toNat; omega)
      · obtain ⟨q, rfl⟩ := hz
        exact .some_ rfl
  obtain ⟨o, e, ho⟩ := hg
  rw [e, ho]
end
end Go.Proofs.Ytgiagoeoifgliaa
