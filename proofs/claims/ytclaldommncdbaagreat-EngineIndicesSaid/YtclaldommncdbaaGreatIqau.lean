/- The law EngineIndices: what it compares. An engine's deques: all machines as a list. An engine's loops by name. EngineIndices in the evaluator's form. EngineIndices in the evaluator's form. EngineIndices in the evaluator's form. EngineIndices in the evaluator's form. The law EngineIndices, for every number of workers. -/
import Derived.Test.YtclaldommncdbaaGreatIqat
set_option linter.all false
namespace Go.Proofs.YtclaldommncdbaaGreat
section
open Go Go.RowKit
set_option maxRecDepth 100000
variable [Tb]
theorem aDQ {b : List Int} (hb : b.length ≤ 1000000) : aaV (anh b) fun o => o.1.1.length ≤ 65536 := by
  unfold anh
  refine aaV.bind (P := fun z => z.1.length ≤ 65536) (aez (fun x => 0 ≤ x.2.1 ∧ x.2.1 ≤ (b.length : Int) + 2 ∧ x.1.length ≤ 65536) (fun x => ((b.length : Int) + 2 - x.2.1).toNat) (fun self x ⟨q0, q1, q2⟩ ih => ?_) _ _ ⟨Int.le_refl 0, by show (0 : Int) ≤ (b.length : Int) + 2; omega, Nat.zero_le _⟩ (by show ((b.length : Int) + 2 - 0).toNat < _; omega)) fun z hz => .some_ hz
  have e1 : wi (x.2.1 + 1) = x.2.1 + 1 := aaW (aaC (by omega))
  have e2 : wi (x.2.1 + 2) = x.2.1 + 2 := aaW (aaC (by omega))
  rw [e1, e2]
  refine aaV.ite (fun h1 => aaV.ite (fun h2 => .guard (by omega) fun _ => .guard (by omega) fun _ => .guard rfl fun _ => .guard rfl fun _ => ?_) fun _ => .some_ q2) fun _ => .some_ q2
  have nx : ∀ u : EntV, aaV (self (x.1 ++ [u], x.2.1 + 2, ())) fun z => z.1.length ≤ 65536 := fun u => ih _ ⟨by show 0 ≤ x.2.1 + 2; omega, by show x.2.1 + 2 ≤ (b.length : Int) + 2; omega, by simp; omega⟩ (by show ((b.length : Int) + 2 - (x.2.1 + 2)).toNat < ((b.length : Int) + 2 - x.2.1).toNat; omega)
  refine aaV.ite (fun _ => .guard (by simp; omega) fun _ => nx _) fun _ => aaV.ite (fun _ => .guard (by simp; omega) fun _ => nx _) fun _ => .guard (by simp; omega) fun _ => nx _
theorem ajq {b : List Int} {n : Int} (hb : b.length ≤ 1000000) (hn : 0 ≤ n) : aaV (akl b n) fun o => o.1.1.length ≤ n.toNat := by
  unfold akl
  refine (aDQ hb).bind fun r hr => aaV.ite (fun h => .guard (by omega) fun _ => .some_ (by show (r.1.1.take n.toNat).length ≤ n.toNat; simp; omega)) fun h => .some_ (by show r.1.1.length ≤ n.toNat; omega)
theorem ajy {c : Cfg} (h : DecOk c) : aaV (abp c) fun o => o.1.1.length ≤ 200 := by
  have hs := h.sn
  have e0 : wi (40 * ((c.subs.length : Nat) : Int)) = 40 * (c.subs.length : Int) := aaW (aaC (by omega))
  unfold abp
  refine aaV.bind (P := fun z => z.1.length ≤ 200) (aez (fun x => 0 ≤ x.2.1 ∧ (x.1.length : Int) ≤ x.2.1 ∧ x.2.1 ≤ 40 * (c.subs.length : Int)) (fun x => (40 * (c.subs.length : Int) - x.2.1).toNat) (fun self x hx ih => ?istep) _ _ ⟨Int.le_refl 0, Int.le_refl 0, by show (0 : Int) ≤ _; omega⟩ (by show (_ - 0 : Int).toNat < _; omega)) fun z hz => .some_ hz
  case istep =>
    obtain ⟨q0, q1, q2⟩ := hx
    have e1 : wi (x.2.1 + 1) = x.2.1 + 1 := aaW (aaC (by omega))
    rw [e0, e1]
    refine aaV.ite (fun hlt => ?_) fun _ => .some_ (by show x.1.length ≤ 200; omega)
    unfold ad2
    rw [bnd]
    refine .guard (by simp only [List.length_singleton]; omega) fun _ => ih _ ⟨by show 0 ≤ x.2.1 + 1; omega, ?_, by show x.2.1 + 1 ≤ _; omega⟩ (by show (_ - (x.2.1 + 1) : Int).toNat < (_ - x.2.1 : Int).toNat; omega)
    show ((x.1 ++ [_]).length : Int) ≤ x.2.1 + 1
    rw [List.length_append, List.length_singleton]
    omega
section
variable {c : Cfg} {N : Nat} {e : EnvP} {os : List OpT} {ts : List ThT}
theorem asJ (h : DecOk c) : acm c = some (((aaz c).queues, ()), ()) := by
  have h1 := h.w
  have h4 := h.h
  have h5 := h.k
  unfold acm
  rw [aaW (x := 4 + c.heap) (aaC (by omega)), aaW (x := 4 + c.heap + c.classes) (aaC (by omega)), aaW (x := 2 * c.workers) (aaC (by omega)), aaW (aaC (by omega))]
  have e : 4 + c.heap + c.classes + 2 * c.workers = (aaz c).queues := by rw [akU]; omega
  rw [e]
theorem ayh (h : DecOk c) : aa8 c = some ((aba c, ()), ()) := by
  have h1 := h.w
  have h4 := h.h
  have h5 := h.k
  have h6 := h.q
  have h7 := h.t
  have hr := h.rg
  have hq := agA h
  unfold aa8
  rw [asJ h, bnd, if_pos rfl, if_pos rfl, if_pos rfl, if_pos rfl]
  simp only
  rw [aaW (x := c.workers * c.levels) (aaC (by omega)), aaW (x := 2 + c.deque) (aaC (by omega)), aaW (x := c.workers * c.levels * (2 + c.deque)) (aaC (by omega)), aaW (x := (aaz c).queues + _) (aaC (by omega)), aaW (x := 5 * c.tasks) (aaC (by omega)), aaW (aaC (by omega))]
  have e : (aaz c).queues + c.workers * c.levels * (2 + c.deque) + 5 * c.tasks = aba c := by unfold aba; omega
  rw [e]
theorem awW (h : DecOk c) {w v : Int} (hv : Vq c w v) : adm c w v = some ((aaj (aaz c) w v, ()), ()) := by
  have h1 := h.w
  have h2 := h.l
  have h6 := h.q
  have h7 := h.h
  have hr := h.rg
  have hq := agA h
  rcases agF h w v with ⟨k, _⟩ | ⟨_, ⟨e1, e2⟩, e⟩
  · exact absurd hv k
  rw [e]
  obtain ⟨⟨a1, a2⟩, a3, a4⟩ := hv
  have b1 := ayM (a := w) (b := c.levels) (A := 4) (B := 4) (by omega) (by omega) (by omega) (by omega)
  have b2 : (w * c.levels + v) * (2 + c.deque) ≤ c.workers * c.levels * (2 + c.deque) := Int.mul_le_mul_of_nonneg_right (by omega) (by omega)
  have b3 : 0 ≤ (w * c.levels + v) * (2 + c.deque) := Int.mul_nonneg e1 (by omega)
  unfold adm
  rw [if_neg (by omega), if_neg (by omega), if_neg (by omega), if_neg (by omega), asJ h, bnd, if_pos rfl, if_pos rfl]
  simp only
  rw [aaW (x := w * c.levels) (aaC (by omega)), aaW (x := w * c.levels + v) (aaC (by omega)), aaW (x := 2 + c.deque) (aaC (by omega)), aaW (x := (w * c.levels + v) * (2 + c.deque)) (aaC (by omega)), aaW (x := (aaz c).queues + (w * c.levels + v) * (2 + c.deque)) (aaC (by omega)), aaW (x := (aaz c).queues + (w * c.levels + v) * (2 + c.deque) + 1) (aaC (by omega)), aaW (aaC (by omega))]
  rfl
theorem aC0 (hn : (e.m.cells.length : Int) = aba c) {a : Int} (ha : 0 ≤ a ∧ a < aba c) : aeo e.m.cells a = e.gt a := by
  show _ = e.m.gt a
  unfold MemV.gt
  rw [if_pos (by omega)]
noncomputable def aF9 (c : Cfg) (cells : List Int) (n : Nat) (rests : Bool) (w : Int) (rest : Option ((Bool × Unit) × Unit)) (self : Int × Unit → Option ((Int × Unit) ⊕ ((Bool × Unit) × Unit))) (x : Int × Unit) : Option ((Int × Unit) ⊕ ((Bool × Unit) × Unit)) :=
 if x.1 < c.levels then
  (adm c w x.1).bind fun r =>
  if 0 ≤ r.1.1.top ∧ r.1.1.top < ((cells.length : Nat) : Int) then
   if 0 ≤ r.1.1.bottom ∧ r.1.1.bottom < ((cells.length : Nat) : Int) then
    if (wu (((n : Nat) : Int))) < (aeo cells r.1.1.top) then
     Option.map Sum.inr (some ((false, ()), (())))
    else
    if (wu (((n : Nat) : Int))) < (aeo cells r.1.1.bottom) then
     Option.map Sum.inr (some ((false, ()), (())))
    else
    if (wu ((aeo cells r.1.1.top) + (wu (c.deque)))) < (aeo cells r.1.1.bottom) then
     Option.map Sum.inr (some ((false, ()), (())))
    else
    if rests = true then
     if (aeo cells r.1.1.bottom) < (aeo cells r.1.1.top) then
      Option.map Sum.inr (some ((false, ()), (())))
     else
     self (wi (x.1 + 1), ())
    else
    self (wi (x.1 + 1), ())
   else none
  else none
 else
 Option.map Sum.inr rest
noncomputable def asy (c : Cfg) (cells : List Int) (n : Nat) (rests : Bool) (w : Int) (rest : Option ((Bool × Unit) × Unit)) : Option ((Bool × Unit) × Unit) :=
 (lpF (aF9 c cells n rests w rest) 18446744073709551616 (0, ())).bind fun z => match z with
  | .inr o => some o
  | .inl _ => some ((true, ()), (()))
theorem avj (h : DN c N e os ts) (hN : N ≤ 100000) {j : Nat} (hj : (j : Int) < c.workers) {n : Nat} (hn : N ≤ n ∧ n ≤ 100000) {rests : Bool} (hr : rests = true → os.getD j none = none) {rest : Option ((Bool × Unit) × Unit)} (ht : aaV rest fun r => r.1.1 = true) : aaV (asy c e.m.cells n rests j rest) fun r => r.1.1 = true := by
  have hd := h.m.d
  have h2 := hd.l
  have h6 := hd.q
  unfold asy
  refine aaV.bind (P := fun z => ∃ o, z = Sum.inr o ∧ o.1.1 = true) (aez (fun x => 0 ≤ x.1 ∧ x.1 ≤ c.levels) (fun x => (c.levels - x.1).toNat) (fun self x hx ih => ?istep) _ _ ⟨Int.le_refl 0, by show (0 : Int) ≤ _; omega⟩ (by show (_ - 0 : Int).toNat < _; omega)) fun z hz => ?_
  case istep =>
    obtain ⟨i, ⟨⟩⟩ := x
    obtain ⟨q0, q1⟩ := hx
    simp only at q0 q1
    have e1 : wi (i + 1) = i + 1 := aaW (aaC (by omega))
    unfold aF9
    refine aaV.ite (fun hlt => ?_) fun _ => ?_
    · have hlt : i < c.levels := hlt
      have hv : Vq c j i := ⟨⟨by omega, hj⟩, q0, hlt⟩
      obtain ⟨a, t1, t2, t3, t4, t5⟩ := azr hd hv
      obtain ⟨d1, d2, d3, d4⟩ := h.deque hv
      have hT : aeo e.m.cells (aaj (aaz c) j i).top = Tq c e j i := aC0 h.n (by omega)
      have hB : aeo e.m.cells (aaj (aaz c) j i).bottom = Bq c e j i := aC0 h.n (by omega)
      have hl : ((e.m.cells.length : Nat) : Int) = aba c := h.n
      rw [awW hd hv, bnd]
      simp only
      rw [hT, hB, hl, e1, aeF (x := (n : Int)) (by omega), aeF (x := c.deque) (by omega), aeF (x := Tq c e j i + c.deque) (by omega)]
      refine .guard (by omega) fun _ => .guard (by omega) fun _ => ?_
      rw [if_neg (by omega), if_neg (by omega), if_neg (by omega)]
      have nx : aaV (self (i + 1, ())) fun z => ∃ o, z = Sum.inr o ∧ o.1.1 = true := ih _ ⟨by show 0 ≤ i + 1; omega, by show i + 1 ≤ _; omega⟩ (by show (_ - (i + 1) : Int).toNat < (_ - i : Int).toNat; omega)
      refine aaV.ite (fun k => ?_) fun _ => nx
      have := d4 (hr k)
      rw [if_neg (by omega)]
      exact nx
    · obtain ⟨o, eo, ho⟩ := ht
      rw [eo]
      exact .some_ ⟨o, rfl, ho⟩
  obtain ⟨o, rfl, ho⟩ := hz
  exact .some_ ho
end
end
section
open Go Go.RowKit
set_option maxRecDepth 100000
variable [Tb]
def JN (c : Cfg) (N : Nat) (e : EnvP) (ws : List (WorkerV MV)) (cl : ClientV MV) : Prop :=
  ∃ os ts, os.length = ws.length ∧ ts.length = ws.length ∧ DN c N e os ts ∧ (∀ (j : Nat) w, ws[j]? = some w → WN c N j w (os.getD j none) (ts.getD j none)) ∧ CN c cl
section
variable {c : Cfg} {N : Nat} {e : EnvP} {ws : List (WorkerV MV)} {cl : ClientV MV} {w : WorkerV MV}
theorem JN.step_w (h : JN c N e ws cl) (hN : N ≤ 100000) {j : Nat} (hj : ws[j]? = some w) : aaV (aam w e) fun o => JN c (N + 1) o.2.2.1 (ws.set j o.2.1) cl := by
  obtain ⟨os, ts, h1, h2, h3, h4, h5⟩ := h
  have hl : j < ws.length := by
    rcases Nat.lt_or_ge j ws.length with k | k
    · exact k
    · rw [List.getElem?_eq_none k] at hj; cases hj
  refine (aA0 h3 hN (by omega) (by omega) rfl rfl (h4 j w hj)).mono fun o ⟨p', t', g1, g2⟩ => ?_
  refine ⟨_, _, by rw [List.length_set, List.length_set]; exact h1, by rw [List.length_set, List.length_set]; exact h2, g1, fun i u hu => ?_, h5⟩
  rw [als (by omega), als (by omega)]
  by_cases hij : i = j
  · subst hij
    rw [List.getElem?_set_self hl] at hu
    rw [if_pos rfl, if_pos rfl, ← Option.some.inj hu]
    exact g2
  · rw [List.getElem?_set_ne (fun k => hij k.symm)] at hu
    rw [if_neg hij, if_neg hij]
    exact (h4 i u hu).next
theorem JN.step_c (h : JN c N e ws cl) (hN : N ≤ 100000) : aaV (aau cl e) fun o => JN c (N + 1) o.2.2.1 ws o.2.1 := by
  obtain ⟨os, ts, h1, h2, h3, h4, h5⟩ := h
  exact (aCV h3 hN h5).mono fun o ⟨g1, g2⟩ => ⟨os, ts, h1, h2, g1, fun i u hu => (h4 i u hu).next, g2⟩
theorem JN.next (h : JN c N e ws cl) : JN c (N + 1) e ws cl := by
  obtain ⟨os, ts, h1, h2, h3, h4, h5⟩ := h
  exact ⟨os, ts, h1, h2, h3.next, fun i u hu => (h4 i u hu).next, h5⟩
theorem JN.clk {k : ClkV} (h : JN c N e ws cl) : JN c N { e with k := k } ws cl := by
  obtain ⟨os, ts, h1, h2, h3, h4, h5⟩ := h
  exact ⟨os, ts, h1, h2, h3.clk, h4, h5⟩
theorem JN.ev (h : JN c N e ws cl) : e.evs.length ≤ 1 + 3 * N := by
  obtain ⟨os, ts, h1, h2, h3, h4, h5⟩ := h
  exact h3.ei.ok.ev
theorem JN.cells (h : JN c N e ws cl) : e.m.cells.length ≤ 1000000 := by
  obtain ⟨os, ts, h1, h2, h3, h4, h5⟩ := h
  exact h3.ei.cl
theorem ave (h : DecOk c) {n : Nat} {ws : List (WorkerV MV)} (hl : ws.length = n) (hw : ∀ (j : Nat) w, ws[j]? = some w → w = ahK (aaz c) j ⟨0, 0, 0, 0, .top⟩) : JN c 0 (apf c) ws (apg c.subs c.workers ⟨0, 0, false, .n1⟩) := by
  have g : ∀ {α : Type} {n j : Nat}, (List.replicate n (none : Option α)).getD j none = none := fun {α n j} => by
    rw [List.getD_eq_getElem?_getD, List.getElem?_replicate]
    split <;> rfl
  refine ⟨List.replicate n none, List.replicate n none, by rw [List.length_replicate]; exact hl.symm, by rw [List.length_replicate]; exact hl.symm, aEH h, fun j w hj => ?_, aEL⟩
  rw [g, g, hw j w hj]
  exact aDq
theorem aqN (h : JN c N e ws cl) : aaV (
  (aa8 c).bind fun r31 =>
   if ((e.m.cells.length : Nat) : Int) ≠ r31.1.1 then
    some (true, ())
   else
   if 0 ≤ (2 : Int) ∧ (2 : Int) < ((e.m.cells.length : Nat) : Int) then
    some (decide ((wu (c.heap)) < (aeo e.m.cells 2)), ())
   else none) fun z => z.1 = false := by
  obtain ⟨os, ts, h1, h2, h3, h4, h5⟩ := h
  have hd := h3.m.d
  have a1 := agA hd
  have a2 := hd.h
  have a3 := hd.t
  have hn : (e.m.cells.length : Int) = aba c := h3.n
  have hc : aba c = (aaz c).table + 5 * c.tasks := rfl
  rw [ayh hd, bnd, if_neg (fun k => k hn), if_pos (by omega), aC0 hn (by omega), aeF (x := c.heap) (by omega)]
  refine .some_ ?_
  show decide _ = false
  have := h3.g.z
  rw [decide_eq_false_iff_not]
  omega
theorem afv (h : JN c N e ws cl) (hN : N ≤ 100000) {j : Nat} (hj : ws[j]? = some w) (hjw : (j : Int) < c.workers) {n : Nat} (hn : N ≤ n ∧ n ≤ 100000) {α : Type} (mk : WorkerV MV → α) :
    aaV ((aal w).bind fun r33 =>
    if r33.1.1 = 0 then
     some (true, mk r33.2.1)
    else
    (aal r33.2.1).bind fun r34 =>
    some (decide (r34.1.1 = 3), mk r34.2.1)) fun z => z.2 = mk w ∧ ∀ {rest : Option ((Bool × Unit) × Unit)}, aaV rest (fun r => r.1.1 = true) → aaV (asy c e.m.cells n z.1 j rest) fun r => r.1.1 = true := by
  obtain ⟨os, ts, h1, h2, h3, h4, h5⟩ := h
  have hw := h4 j w hj
  refine (auy hw).bind fun o ⟨g1, g2⟩ => ?_
  refine aaV.ite (fun k => .some_ ⟨by rw [g2], fun hr => avj h3 hN hjw hn (fun _ => g1 (.inl k)) hr⟩) fun _ => ?_
  rw [g2]
  refine (auy hw).bind fun o2 ⟨g3, g4⟩ => .some_ ⟨by rw [g4], fun hr => avj h3 hN hjw hn (fun k => g3 (.inr (of_decide_eq_true k))) hr⟩
end
end
section
open Go Go.RowKit
set_option maxRecDepth 100000
variable [Tb]
abbrev arA := Int × List Int × Int × Int × Int × Int × Unit
noncomputable def ajp {σ : Type} (c0 : Int) (env : EnvP) (eng : arA) (self : EnvP → arA → Option σ) : Option σ :=
   (abc env.m).bind fun r22 =>
   if c0 < r22.1.1 then
    (aeu r22.2.1).bind fun r23 =>
    (lpF (σ := EnvP × (Int × List Int × Int × Int × Int × Int × Unit) × Unit) (β := EnvP × (Int × List Int × Int × Int × Int × Int × Unit) × Unit) (fun self26 x24 =>
     if ((x24.2.1.2.1.length : Nat) : Int) < ((x24.1.evs.length : Nat) : Int) then
      if (((x24.2.1.2.1.length + ([x24.2.1.1] : List Int).length : Nat)) : Int) < 1000000000000 then
       self26 (x24.1, (x24.2.1.1, x24.2.1.2.1 ++ ([x24.2.1.1]), x24.2.1.2.2.1, x24.2.1.2.2.2.1, x24.2.1.2.2.2.2.1, x24.2.1.2.2.2.2.2.1, ()), ())
      else none
     else
     some (x24.1, x24.2.1, ())
    ) 18446744073709551616 (({ env with m := r23.2.1 } : EnvP), (eng.1, eng.2.1, r23.1.1.kind, r23.1.1.cell, r23.1.1.old, r23.1.1.new, ()), ())).bind fun z25 =>
    self z25.1 (wi (z25.2.1.1 + 1), z25.2.1.2.1, z25.2.1.2.2.1, z25.2.1.2.2.2.1, z25.2.1.2.2.2.2.1, z25.2.1.2.2.2.2.2.1, ())
   else
   (lpF (σ := EnvP × (Int × List Int × Int × Int × Int × Int × Unit) × Unit) (β := EnvP × (Int × List Int × Int × Int × Int × Int × Unit) × Unit) (fun self29 x27 =>
    if ((x27.2.1.2.1.length : Nat) : Int) < ((x27.1.evs.length : Nat) : Int) then
     if (((x27.2.1.2.1.length + ([x27.2.1.1] : List Int).length : Nat)) : Int) < 1000000000000 then
      self29 (x27.1, (x27.2.1.1, x27.2.1.2.1 ++ ([x27.2.1.1]), x27.2.1.2.2.1, x27.2.1.2.2.2.1, x27.2.1.2.2.2.2.1, x27.2.1.2.2.2.2.2.1, ()), ())
     else none
    else
    some (x27.1, x27.2.1, ())
   ) 18446744073709551616 (({ env with m := r22.2.1 } : EnvP), (eng.1, eng.2.1, 0, 0, 0, 0, ()), ())).bind fun z28 =>
   self z28.1 (wi (z28.2.1.1 + 1), z28.2.1.2.1, z28.2.1.2.2.1, z28.2.1.2.2.2.1, z28.2.1.2.2.2.2.1, z28.2.1.2.2.2.2.2.1, ())
abbrev as4 := Int × EnvP × (WorkerV MV) × (ClientV MV) × (Int × List Int × Int × Int × Int × Int × Unit) × Unit
noncomputable def anI (l : List EntV) (x12 : as4) (r15 : (Int × Unit) × (MemV × Unit)) :=
   ((
    if ((apL l x12.1).kind) = 0 then
     (acU (apL l x12.1) 2).bind fun r16 =>
     if r16.1.1 = ((1 : Nat) : Int) then
      (aau x12.2.2.2.1 ({ x12.2.1 with m := r15.2.1 } : EnvP)).bind fun r17 =>
      some (r17.2.2.1, x12.2.2.1, r17.2.1, x12.2.2.2.2.1, ())
     else
      if r16.1.1 = ((0 : Nat) : Int) then
       (aam x12.2.2.1 ({ x12.2.1 with m := r15.2.1 } : EnvP)).bind fun r18 =>
       some (r18.2.2.1, r18.2.1, x12.2.2.2.1, x12.2.2.2.2.1, ())
      else
       none
    else
    if ((apL l x12.1).kind) = 1 then
     (adE x12.2.1.k).bind fun r19 =>
     some (({ x12.2.1 with m := r15.2.1, k := r19.2.1 } : EnvP), x12.2.2.1, x12.2.2.2.1, x12.2.2.2.2.1, ())
    else
    if ((apL l x12.1).kind) = 2 then
     (ad9 x12.2.1.k ((apL l x12.1).value)).bind fun r20 =>
     some (({ x12.2.1 with m := r15.2.1, k := r20.2.1 } : EnvP), x12.2.2.1, x12.2.2.2.1, x12.2.2.2.2.1, ())
    else
    some (({ x12.2.1 with m := r15.2.1 } : EnvP), x12.2.2.1, x12.2.2.2.1, x12.2.2.2.2.1, ())
   ) : Option (EnvP × (WorkerV MV) × (ClientV MV) × (Int × List Int × Int × Int × Int × Int × Unit) × Unit))
noncomputable def anM (l : List EntV) (self14 : as4 → Option (as4)) (x12 : as4) : Option (as4) :=
 if x12.1 < ((l.length : Nat) : Int) then
  if 0 ≤ x12.1 ∧ x12.1 < ((l.length : Nat) : Int) then
   (abc x12.2.1.m).bind fun r15 =>
   (anI l x12 r15).bind fun z21 =>
   ajp r15.1.1 z21.1 z21.2.2.2.1 (fun e g => self14 (wi (x12.1 + 1), e, z21.2.1, z21.2.2.1, g, ()))
  else none
 else
 some (x12.1, x12.2.1, x12.2.2.1, x12.2.2.2.1, x12.2.2.2.2.1, ())
abbrev as3 := Int × EnvP × (WorkerV MV) × (WorkerV MV) × (ClientV MV) × (Int × List Int × Int × Int × Int × Int × Unit) × Unit
noncomputable def anH (l : List EntV) (x13 : as3) (r16 : (Int × Unit) × (MemV × Unit)) :=
   ((
    if ((apL l x13.1).kind) = 0 then
     (acU (apL l x13.1) 3).bind fun r17 =>
     if r17.1.1 = ((2 : Nat) : Int) then
      (aau x13.2.2.2.2.1 ({ x13.2.1 with m := r16.2.1 } : EnvP)).bind fun r18 =>
      some (r18.2.2.1, x13.2.2.1, x13.2.2.2.1, r18.2.1, x13.2.2.2.2.2.1, ())
     else
      if r17.1.1 = ((1 : Nat) : Int) then
       (aam x13.2.2.2.1 ({ x13.2.1 with m := r16.2.1 } : EnvP)).bind fun r19 =>
       some (r19.2.2.1, x13.2.2.1, r19.2.1, x13.2.2.2.2.1, x13.2.2.2.2.2.1, ())
      else
       if r17.1.1 = ((0 : Nat) : Int) then
        (aam x13.2.2.1 ({ x13.2.1 with m := r16.2.1 } : EnvP)).bind fun r20 =>
        some (r20.2.2.1, r20.2.1, x13.2.2.2.1, x13.2.2.2.2.1, x13.2.2.2.2.2.1, ())
       else
        none
    else
    if ((apL l x13.1).kind) = 1 then
     (adE x13.2.1.k).bind fun r21 =>
     some (({ x13.2.1 with m := r16.2.1, k := r21.2.1 } : EnvP), x13.2.2.1, x13.2.2.2.1, x13.2.2.2.2.1, x13.2.2.2.2.2.1, ())
    else
    if ((apL l x13.1).kind) = 2 then
     (ad9 x13.2.1.k ((apL l x13.1).value)).bind fun r22 =>
     some (({ x13.2.1 with m := r16.2.1, k := r22.2.1 } : EnvP), x13.2.2.1, x13.2.2.2.1, x13.2.2.2.2.1, x13.2.2.2.2.2.1, ())
    else
    some (({ x13.2.1 with m := r16.2.1 } : EnvP), x13.2.2.1, x13.2.2.2.1, x13.2.2.2.2.1, x13.2.2.2.2.2.1, ())
   ) : Option (EnvP × (WorkerV MV) × (WorkerV MV) × (ClientV MV) × (Int × List Int × Int × Int × Int × Int × Unit) × Unit))
noncomputable def anL (l : List EntV) (self15 : as3 → Option (as3)) (x13 : as3) : Option (as3) :=
 if x13.1 < ((l.length : Nat) : Int) then
  if 0 ≤ x13.1 ∧ x13.1 < ((l.length : Nat) : Int) then
   (abc x13.2.1.m).bind fun r16 =>
   (anH l x13 r16).bind fun z23 =>
   ajp r16.1.1 z23.1 z23.2.2.2.2.1 (fun e g => self15 (wi (x13.1 + 1), e, z23.2.1, z23.2.2.1, z23.2.2.2.1, g, ()))
  else none
 else
 some (x13.1, x13.2.1, x13.2.2.1, x13.2.2.2.1, x13.2.2.2.2.1, x13.2.2.2.2.2.1, ())
abbrev as2 := Int × EnvP × (WorkerV MV) × (WorkerV MV) × (WorkerV MV) × (ClientV MV) × (Int × List Int × Int × Int × Int × Int × Unit) × Unit
noncomputable def anG (l : List EntV) (x14 : as2) (r17 : (Int × Unit) × (MemV × Unit)) :=
   ((
    if ((apL l x14.1).kind) = 0 then
     (acU (apL l x14.1) 4).bind fun r18 =>
     if r18.1.1 = ((3 : Nat) : Int) then
      (aau x14.2.2.2.2.2.1 ({ x14.2.1 with m := r17.2.1 } : EnvP)).bind fun r19 =>
      some (r19.2.2.1, x14.2.2.1, x14.2.2.2.1, x14.2.2.2.2.1, r19.2.1, x14.2.2.2.2.2.2.1, ())
     else
      if r18.1.1 = ((2 : Nat) : Int) then
       (aam x14.2.2.2.2.1 ({ x14.2.1 with m := r17.2.1 } : EnvP)).bind fun r20 =>
       some (r20.2.2.1, x14.2.2.1, x14.2.2.2.1, r20.2.1, x14.2.2.2.2.2.1, x14.2.2.2.2.2.2.1, ())
      else
       if r18.1.1 = ((1 : Nat) : Int) then
        (aam x14.2.2.2.1 ({ x14.2.1 with m := r17.2.1 } : EnvP)).bind fun r21 =>
        some (r21.2.2.1, x14.2.2.1, r21.2.1, x14.2.2.2.2.1, x14.2.2.2.2.2.1, x14.2.2.2.2.2.2.1, ())
       else
        if r18.1.1 = ((0 : Nat) : Int) then
         (aam x14.2.2.1 ({ x14.2.1 with m := r17.2.1 } : EnvP)).bind fun r22 =>
         some (r22.2.2.1, r22.2.1, x14.2.2.2.1, x14.2.2.2.2.1, x14.2.2.2.2.2.1, x14.2.2.2.2.2.2.1, ())
        else
         none
    else
    if ((apL l x14.1).kind) = 1 then
     (adE x14.2.1.k).bind fun r23 =>
     some (({ x14.2.1 with m := r17.2.1, k := r23.2.1 } : EnvP), x14.2.2.1, x14.2.2.2.1, x14.2.2.2.2.1, x14.2.2.2.2.2.1, x14.2.2.2.2.2.2.1, ())
    else
    if ((apL l x14.1).kind) = 2 then
     (ad9 x14.2.1.k ((apL l x14.1).value)).bind fun r24 =>
     some (({ x14.2.1 with m := r17.2.1, k := r24.2.1 } : EnvP), x14.2.2.1, x14.2.2.2.1, x14.2.2.2.2.1, x14.2.2.2.2.2.1, x14.2.2.2.2.2.2.1, ())
    else
    some (({ x14.2.1 with m := r17.2.1 } : EnvP), x14.2.2.1, x14.2.2.2.1, x14.2.2.2.2.1, x14.2.2.2.2.2.1, x14.2.2.2.2.2.2.1, ())
   ) : Option (EnvP × (WorkerV MV) × (WorkerV MV) × (WorkerV MV) × (ClientV MV) × (Int × List Int × Int × Int × Int × Int × Unit) × Unit))
noncomputable def anK (l : List EntV) (self16 : as2 → Option (as2)) (x14 : as2) : Option (as2) :=
 if x14.1 < ((l.length : Nat) : Int) then
  if 0 ≤ x14.1 ∧ x14.1 < ((l.length : Nat) : Int) then
   (abc x14.2.1.m).bind fun r17 =>
   (anG l x14 r17).bind fun z25 =>
   ajp r17.1.1 z25.1 z25.2.2.2.2.2.1 (fun e g => self16 (wi (x14.1 + 1), e, z25.2.1, z25.2.2.1, z25.2.2.2.1, z25.2.2.2.2.1, g, ()))
  else none
 else
 some (x14.1, x14.2.1, x14.2.2.1, x14.2.2.2.1, x14.2.2.2.2.1, x14.2.2.2.2.2.1, x14.2.2.2.2.2.2.1, ())
abbrev as1 := Int × EnvP × (WorkerV MV) × (WorkerV MV) × (WorkerV MV) × (WorkerV MV) × (ClientV MV) × (Int × List Int × Int × Int × Int × Int × Unit) × Unit
noncomputable def anF (l : List EntV) (x15 : as1) (r18 : (Int × Unit) × (MemV × Unit)) :=
   ((
    if ((apL l x15.1).kind) = 0 then
     (acU (apL l x15.1) 5).bind fun r19 =>
     if r19.1.1 = ((4 : Nat) : Int) then
      (aau x15.2.2.2.2.2.2.1 ({ x15.2.1 with m := r18.2.1 } : EnvP)).bind fun r20 =>
      some (r20.2.2.1, x15.2.2.1, x15.2.2.2.1, x15.2.2.2.2.1, x15.2.2.2.2.2.1, r20.2.1, x15.2.2.2.2.2.2.2.1, ())
     else
      if r19.1.1 = ((3 : Nat) : Int) then
       (aam x15.2.2.2.2.2.1 ({ x15.2.1 with m := r18.2.1 } : EnvP)).bind fun r21 =>
       some (r21.2.2.1, x15.2.2.1, x15.2.2.2.1, x15.2.2.2.2.1, r21.2.1, x15.2.2.2.2.2.2.1, x15.2.2.2.2.2.2.2.1, ())
      else
       if r19.1.1 = ((2 : Nat) : Int) then
        (aam x15.2.2.2.2.1 ({ x15.2.1 with m := r18.2.1 } : EnvP)).bind fun r22 =>
        some (r22.2.2.1, x15.2.2.1, x15.2.2.2.1, r22.2.1, x15.2.2.2.2.2.1, x15.2.2.2.2.2.2.1, x15.2.2.2.2.2.2.2.1, ())
       else
        if r19.1.1 = ((1 : Nat) : Int) then
         (aam x15.2.2.2.1 ({ x15.2.1 with m := r18.2.1 } : EnvP)).bind fun r23 =>
         some (r23.2.2.1, x15.2.2.1, r23.2.1, x15.2.2.2.2.1, x15.2.2.2.2.2.1, x15.2.2.2.2.2.2.1, x15.2.2.2.2.2.2.2.1, ())
        else
         if r19.1.1 = ((0 : Nat) : Int) then
          (aam x15.2.2.1 ({ x15.2.1 with m := r18.2.1 } : EnvP)).bind fun r24 =>
          some (r24.2.2.1, r24.2.1, x15.2.2.2.1, x15.2.2.2.2.1, x15.2.2.2.2.2.1, x15.2.2.2.2.2.2.1, x15.2.2.2.2.2.2.2.1, ())
         else
          none
    else
    if ((apL l x15.1).kind) = 1 then
     (adE x15.2.1.k).bind fun r25 =>
     some (({ x15.2.1 with m := r18.2.1, k := r25.2.1 } : EnvP), x15.2.2.1, x15.2.2.2.1, x15.2.2.2.2.1, x15.2.2.2.2.2.1, x15.2.2.2.2.2.2.1, x15.2.2.2.2.2.2.2.1, ())
    else
    if ((apL l x15.1).kind) = 2 then
     (ad9 x15.2.1.k ((apL l x15.1).value)).bind fun r26 =>
     some (({ x15.2.1 with m := r18.2.1, k := r26.2.1 } : EnvP), x15.2.2.1, x15.2.2.2.1, x15.2.2.2.2.1, x15.2.2.2.2.2.1, x15.2.2.2.2.2.2.1, x15.2.2.2.2.2.2.2.1, ())
    else
    some (({ x15.2.1 with m := r18.2.1 } : EnvP), x15.2.2.1, x15.2.2.2.1, x15.2.2.2.2.1, x15.2.2.2.2.2.1, x15.2.2.2.2.2.2.1, x15.2.2.2.2.2.2.2.1, ())
   ) : Option (EnvP × (WorkerV MV) × (WorkerV MV) × (WorkerV MV) × (WorkerV MV) × (ClientV MV) × (Int × List Int × Int × Int × Int × Int × Unit) × Unit))
noncomputable def anJ (l : List EntV) (self17 : as1 → Option (as1)) (x15 : as1) : Option (as1) :=
 if x15.1 < ((l.length : Nat) : Int) then
  if 0 ≤ x15.1 ∧ x15.1 < ((l.length : Nat) : Int) then
   (abc x15.2.1.m).bind fun r18 =>
   (anF l x15 r18).bind fun z27 =>
   ajp r18.1.1 z27.1 z27.2.2.2.2.2.2.1 (fun e g => self17 (wi (x15.1 + 1), e, z27.2.1, z27.2.2.1, z27.2.2.2.1, z27.2.2.2.2.1, z27.2.2.2.2.2.1, g, ()))
  else none
 else
 some (x15.1, x15.2.1, x15.2.2.1, x15.2.2.2.1, x15.2.2.2.2.1, x15.2.2.2.2.2.1, x15.2.2.2.2.2.2.1, x15.2.2.2.2.2.2.2.1, ())
theorem anU {N : Nat} {env : EnvP} {eng : arA} (F : (EnvP × arA × Unit → Option (EnvP × arA × Unit)) → EnvP × arA × Unit → Option (EnvP × arA × Unit))
    (hF : ∀ self x, F self x = if ((x.2.1.2.1.length : Nat) : Int) < ((x.1.evs.length : Nat) : Int) then
        if (((x.2.1.2.1.length + ([x.2.1.1] : List Int).length : Nat)) : Int) < 1000000000000 then self (x.1, (x.2.1.1, x.2.1.2.1 ++ ([x.2.1.1]), x.2.1.2.2.1, x.2.1.2.2.2.1, x.2.1.2.2.2.2.1, x.2.1.2.2.2.2.2.1, ()), ()) else none
      else some (x.1, (x.2.1.1, x.2.1.2.1, x.2.1.2.2.1, x.2.1.2.2.2.1, x.2.1.2.2.2.2.1, x.2.1.2.2.2.2.2.1, ()), ()))
    (h : eng.2.1.length ≤ N) (he : env.evs.length ≤ N) (hN : N ≤ 999999999) :
    aaV (lpF F 18446744073709551616 (env, eng, ())) fun z => z.1 = env ∧ z.2.1.2.1.length ≤ N ∧ env.evs.length ≤ z.2.1.2.1.length := by
  refine aez (fun x => x.1 = env ∧ x.2.1.2.1.length ≤ N) (fun x => env.evs.length - x.2.1.2.1.length) (fun self x hx ih => ?_) _ _ ⟨rfl, h⟩ (by show env.evs.length - _ < _; omega)
  obtain ⟨e, ⟨n, st, a, b, c, d, ⟨⟩⟩, ⟨⟩⟩ := x
  obtain ⟨h1, h2⟩ := hx
  simp only at h1 h2
  subst h1
  rw [hF]
  refine aaV.ite (fun hlt => ?_) fun hge => ?_
  · have hlt : ((st.length : Nat) : Int) < ((e.evs.length : Nat) : Int) := hlt
    refine aaV.guard (by simp only [List.length_singleton]; omega) fun _ => ?_
    refine ih _ ⟨rfl, ?_⟩ ?_
    · show (st ++ [n]).length ≤ _
      rw [List.length_append, List.length_singleton]
      omega
    · show e.evs.length - (st ++ [n]).length < e.evs.length - st.length
      rw [List.length_append, List.length_singleton]
      omega
  · have hge : ¬ ((st.length : Nat) : Int) < ((e.evs.length : Nat) : Int) := hge
    exact .some_ ⟨rfl, h2, by show e.evs.length ≤ st.length; omega⟩
theorem ajo {σ : Type} {N : Nat} {c0 : Int} {env : EnvP} {eng : arA} {self : EnvP → arA → Option σ} {P : σ → Prop}
    (hev : env.evs.length ≤ N) (hst : eng.2.1.length ≤ N) (hN : N ≤ 999999999)
    (hs : ∀ eng' : arA, eng'.2.1.length ≤ N → env.evs.length ≤ eng'.2.1.length → aaV (self env eng') P) : aaV (ajp c0 env eng self) P := by
  unfold ajp
  rw [alw, bnd]
  refine aaV.ite (fun _ => ?_) fun _ => ?_
  · rw [aCn, bnd]
    refine aaV.bind (anU _ (fun _ _ => rfl) (by exact hst) (by exact hev) hN) fun z hz => ?_
    obtain ⟨z1, z2, z3⟩ := hz
    rw [z1]
    exact hs _ z2 z3
  · refine aaV.bind (anU _ (fun _ _ => rfl) (by exact hst) (by exact hev) hN) fun z hz => ?_
    obtain ⟨z1, z2, z3⟩ := hz
    rw [z1]
    exact hs _ z2 z3
end
section
open Go Go.RowKit
set_option maxRecDepth 100000
variable [Tb]
noncomputable def aa5 (y0 : List Int) (y1 : List Int) (y2 : Bool) : Option ((Bool × Unit) × (Unit)) :=
 (aou y0 ([])).bind fun r1 =>
 if (!r1.1.1) = true then
  some ((true, ()), (()))
 else
 if 1200 < ((y1.length : Nat) : Int) then
  some ((true, ()), (()))
 else
 (af5 y0).bind fun r2 =>
 (akl y1 600).bind fun r3 =>
 ((
  if y2 = true then
   (abp r2.1.1).bind fun r4 =>
   if (((r4.1.1.length + r3.1.1.length : Nat)) : Int) < 1000000000000 then
    some (r4.1.1 ++ r3.1.1, ())
   else none
  else
  some (r3.1.1, ())
 ) : Option (List EntV × Unit)).bind fun z5 =>
 (ad7 r2.1.1).bind fun r6 =>
 if r6.1.2.1 ≠ 0 then
  if r6.1.2.1 ≠ 0 then
   (aaF).bind fun r7 =>
   if (!r7.1.1) = true then
    some ((false, ()), (()))
   else
   some ((false, ()), (()))
  else
  (aaF).bind fun r8 =>
  if (!r8.1.1) = true then
   some ((false, ()), (()))
  else
  some ((false, ()), (()))
 else
 (afX r2.1.1).bind fun r9 =>
 if r2.1.1.workers = ((1 : Nat) : Int) then
  (adb 0).bind fun r10 =>
  (lpF (anM z5.1) 18446744073709551616 (0, r6.1.1, r10.1.1, r9.1.1, (0, [], 0, 0, 0, 0, ()), ())).bind fun z12 =>
  (aaF).bind fun r29 =>
  if (!r29.1.1) = true then
   some ((false, ()), (()))
  else
  (abR z12.2.1.m).bind fun r30 =>
  ((
   (aa8 r2.1.1).bind fun r31 =>
   if ((r30.1.1.length : Nat) : Int) ≠ r31.1.1 then
    some (true, ())
   else
   if 0 ≤ (2 : Int) ∧ (2 : Int) < ((r30.1.1.length : Nat) : Int) then
    some (decide ((wu (r2.1.1.heap)) < (aeo r30.1.1 2)), ())
   else none
  ) : Option (Bool × Unit)).bind fun z32 =>
  if z32.1 = true then
   some ((false, ()), (()))
  else
  if 0 < r2.1.1.workers then
   ((
    (aal z12.2.2.1).bind fun r33 =>
    if r33.1.1 = 0 then
     some (true, ({ z12.2.1 with m := r30.2.1 } : EnvP), r33.2.1, z12.2.2.2.1, z12.2.2.2.2.1, ())
    else
    (aal r33.2.1).bind fun r34 =>
    some (decide (r34.1.1 = 3), ({ z12.2.1 with m := r30.2.1 } : EnvP), r34.2.1, z12.2.2.2.1, z12.2.2.2.2.1, ())
   ) : Option (Bool × EnvP × (WorkerV MV) × (ClientV MV) × (Int × List Int × Int × Int × Int × Int × Unit) × Unit)).bind fun z35 =>
   asy r2.1.1 r30.1.1 z5.1.length z35.1 0 (
     if 1 < r2.1.1.workers then
      ((
       (aaB z35.2.2.2.1).bind fun r40 =>
       if r40.1.1 = 0 then
        some (true, z35.2.1, z35.2.2.1, r40.2.1, z35.2.2.2.2.1, ())
       else
       (aaB r40.2.1).bind fun r41 =>
       some (decide (r41.1.1 = 3), z35.2.1, z35.2.2.1, r41.2.1, z35.2.2.2.2.1, ())
      ) : Option (Bool × EnvP × (WorkerV MV) × (ClientV MV) × (Int × List Int × Int × Int × Int × Int × Unit) × Unit)).bind fun z42 =>
      asy r2.1.1 r30.1.1 z5.1.length z42.1 1 (
        none
      )
     else
     some ((true, ()), (()))
   )
  else
  some ((true, ()), (()))
 else
 none
noncomputable abbrev afK : Con SR1 := ⟨3, [.sh (.ro 17), .sh (.ro 17), .sh .b], [.sh .b], fun x => aa5 x.1 x.2.1 x.2.2.1⟩
noncomputable def aff : List (Nat × Func) := [(9, Tryz.f9), (22, Tryz.f22), (41, Tryz.f41), (16, Tryz.f16), (23, Tryz.f23), (11, Tryz.f11), (13, Tryz.f13)]
theorem afg : CO Tryz.prog afK := aaq aap Tryz.func3 [alp, ahv, ai5, ab2, aeI, ab1, afs, afi, abQ, adc, ach, ab7, acQ, adj, acd, acC, ab0, abI, abZ, abJ] ⟨alo, ahu, ajB, acM, aeW, acL, afW, afL, acn, adu, acH, acy, adi, ady, acB, ac8, acK, ab3, acJ, ab6, trivial⟩ aff ⟨Tryz.func9, Tryz.func22, Tryz.func41, Tryz.func16, Tryz.func23, Tryz.func11, Tryz.func13, trivial⟩ (fun f => (get [(22, [(6, .spl 22 [1] 2)]), (41, [(2, .unroll 2)]), (16, [(1, .loop [.rg 8 sI_, .ob 20 27, .ob 34 31, .ob 22 30, .cx 23 [.inr (.ptr 20 0), .inr (.sl 36), .inr (.ptr 22 0), .inr (.sl 62), .inl sI_, .inl (.row 1), .inl sI_, .inl sI_, .inl sU_, .inl sU_]] 18446744073709551616 0)]), (23, [(9, .cut [.ob 20 27, .ob 34 31, .ob 22 30, .cx 23 [.inr (.ptr 20 0), .inr (.sl 36), .inr (.ptr 22 0), .inr (.sl 62), .inl sI_, .inl (.row 1), .inl sI_, .inl sI_, .inl sU_, .inl sU_]] [0, 1, 13, 14, 65, 66, 67]), (12, .loop [.ob 20 27, .cx 23 [.inr (.ptr 20 0), .inr (.sl 36), .inr (.ptr 22 0), .inr (.sl 62), .inl sI_, .inl (.row 1), .inl sI_, .inl sI_, .inl sU_, .inl sU_]] 18446744073709551616 1)])] f).getD []) [(7, .cut [.rg 8 (.row 5)] [0, 1, 13, 14, 15]), (14, .unroll 2), (17, .cut [.rg 12 .b, .ob 20 27, .ob 34 31, .ob 22 30, .cx 23 [.inr (.ptr 20 0), .inr (.sl 36), .inr (.ptr 22 0), .inr (.sl 62), .inl sI_, .inl (.row 1), .inl sI_, .inl sI_, .inl sU_, .inl sU_]] [0, 1, 13, 14, 15, 17, 18, 19, 36, 37, 62, 63, 67]), (18, .loopR [.rg 13 sI_] 18446744073709551616 0), (12, .cut [.rg 58 .b] [0, 1, 13, 14, 15, 17, 18, 19, 20, 22, 23, 34, 36, 37, 62, 63, 66, 67])] fun x => by kernel_rfl
end
section
open Go Go.RowKit
set_option maxRecDepth 100000
variable [Tb]
noncomputable def abv (y0 : List Int) (y1 : List Int) (y2 : Bool) : Option ((Bool × Unit) × (Unit)) :=
 (aou y0 ([])).bind fun r1 =>
 if (!r1.1.1) = true then
  some ((true, ()), (()))
 else
 if 1200 < ((y1.length : Nat) : Int) then
  some ((true, ()), (()))
 else
 (af5 y0).bind fun r2 =>
 (akl y1 600).bind fun r3 =>
 ((
  if y2 = true then
   (abp r2.1.1).bind fun r4 =>
   if (((r4.1.1.length + r3.1.1.length : Nat)) : Int) < 1000000000000 then
    some (r4.1.1 ++ r3.1.1, ())
   else none
  else
  some (r3.1.1, ())
 ) : Option (List EntV × Unit)).bind fun z5 =>
 (ad7 r2.1.1).bind fun r6 =>
 if r6.1.2.1 ≠ 0 then
  if r6.1.2.1 ≠ 0 then
   (aaF).bind fun r7 =>
   if (!r7.1.1) = true then
    some ((false, ()), (()))
   else
   some ((false, ()), (()))
  else
  (aaF).bind fun r8 =>
  if (!r8.1.1) = true then
   some ((false, ()), (()))
  else
  some ((false, ()), (()))
 else
 (afX r2.1.1).bind fun r9 =>
 if r2.1.1.workers = ((2 : Nat) : Int) then
  (adb 0).bind fun r10 =>
  (adb 1).bind fun r11 =>
  (lpF (anL z5.1) 18446744073709551616 (0, r6.1.1, r10.1.1, r11.1.1, r9.1.1, (0, [], 0, 0, 0, 0, ()), ())).bind fun z13 =>
  (aaF).bind fun r31 =>
  if (!r31.1.1) = true then
   some ((false, ()), (()))
  else
  (abR z13.2.1.m).bind fun r32 =>
  ((
   (aa8 r2.1.1).bind fun r33 =>
   if ((r32.1.1.length : Nat) : Int) ≠ r33.1.1 then
    some (true, ())
   else
   if 0 ≤ (2 : Int) ∧ (2 : Int) < ((r32.1.1.length : Nat) : Int) then
    some (decide ((wu (r2.1.1.heap)) < (aeo r32.1.1 2)), ())
   else none
  ) : Option (Bool × Unit)).bind fun z34 =>
  if z34.1 = true then
   some ((false, ()), (()))
  else
  if 0 < r2.1.1.workers then
   ((
    (aal z13.2.2.1).bind fun r35 =>
    if r35.1.1 = 0 then
     some (true, ({ z13.2.1 with m := r32.2.1 } : EnvP), r35.2.1, z13.2.2.2.1, z13.2.2.2.2.1, z13.2.2.2.2.2.1, ())
    else
    (aal r35.2.1).bind fun r36 =>
    some (decide (r36.1.1 = 3), ({ z13.2.1 with m := r32.2.1 } : EnvP), r36.2.1, z13.2.2.2.1, z13.2.2.2.2.1, z13.2.2.2.2.2.1, ())
   ) : Option (Bool × EnvP × (WorkerV MV) × (WorkerV MV) × (ClientV MV) × (Int × List Int × Int × Int × Int × Int × Unit) × Unit)).bind fun z37 =>
   asy r2.1.1 r32.1.1 z5.1.length z37.1 0 (
     if 1 < r2.1.1.workers then
      ((
       (aal z37.2.2.2.1).bind fun r42 =>
       if r42.1.1 = 0 then
        some (true, z37.2.1, z37.2.2.1, r42.2.1, z37.2.2.2.2.1, z37.2.2.2.2.2.1, ())
       else
       (aal r42.2.1).bind fun r43 =>
       some (decide (r43.1.1 = 3), z37.2.1, z37.2.2.1, r43.2.1, z37.2.2.2.2.1, z37.2.2.2.2.2.1, ())
      ) : Option (Bool × EnvP × (WorkerV MV) × (WorkerV MV) × (ClientV MV) × (Int × List Int × Int × Int × Int × Int × Unit) × Unit)).bind fun z44 =>
      asy r2.1.1 r32.1.1 z5.1.length z44.1 1 (
        if 2 < r2.1.1.workers then
         ((
          (aaB z44.2.2.2.2.1).bind fun r49 =>
          if r49.1.1 = 0 then
           some (true, z44.2.1, z44.2.2.1, z44.2.2.2.1, r49.2.1, z44.2.2.2.2.2.1, ())
          else
          (aaB r49.2.1).bind fun r50 =>
          some (decide (r50.1.1 = 3), z44.2.1, z44.2.2.1, z44.2.2.2.1, r50.2.1, z44.2.2.2.2.2.1, ())
         ) : Option (Bool × EnvP × (WorkerV MV) × (WorkerV MV) × (ClientV MV) × (Int × List Int × Int × Int × Int × Int × Unit) × Unit)).bind fun z51 =>
         asy r2.1.1 r32.1.1 z5.1.length z51.1 2 (
           none
         )
        else
        some ((true, ()), (()))
      )
     else
     some ((true, ()), (()))
   )
  else
  some ((true, ()), (()))
 else
 none
noncomputable abbrev afJ : Con SR1 := ⟨3, [.sh (.ro 17), .sh (.ro 17), .sh .b], [.sh .b], fun x => abv x.1 x.2.1 x.2.2.1⟩
noncomputable def afd : List (Nat × Func) := [(9, Tryz.f9), (22, Tryz.f22), (41, Tryz.f41), (16, Tryz.f16), (23, Tryz.f23), (11, Tryz.f11), (13, Tryz.f13)]
theorem afe : CO Tryz.prog afJ := aaq aap Tryz.func3 [alp, ahv, ai5, ab2, aeI, ab1, afs, afi, abQ, adc, ach, ab7, acQ, adj, acd, acC, ab0, abI, abZ, abJ] ⟨alo, ahu, ajB, acM, aeW, acL, afW, afL, acn, adu, acH, acy, adi, ady, acB, ac8, acK, ab3, acJ, ab6, trivial⟩ afd ⟨Tryz.func9, Tryz.func22, Tryz.func41, Tryz.func16, Tryz.func23, Tryz.func11, Tryz.func13, trivial⟩ (fun f => (get [(22, [(6, .spl 22 [2] 3)]), (41, [(2, .unroll 3)]), (16, [(1, .loop [.rg 8 sI_, .ob 20 27, .ob 34 31, .ob 48 31, .ob 22 30, .cx 23 [.inr (.ptr 20 0), .inr (.sl 50), .inr (.ptr 22 0), .inr (.sl 79), .inl sI_, .inl (.row 1), .inl sI_, .inl sI_, .inl sU_, .inl sU_]] 18446744073709551616 0)]), (23, [(9, .cut [.ob 20 27, .ob 34 31, .ob 48 31, .ob 22 30, .cx 23 [.inr (.ptr 20 0), .inr (.sl 50), .inr (.ptr 22 0), .inr (.sl 79), .inl sI_, .inl (.row 1), .inl sI_, .inl sI_, .inl sU_, .inl sU_]] [0, 1, 13, 14, 82, 83, 84]), (12, .loop [.ob 20 27, .cx 23 [.inr (.ptr 20 0), .inr (.sl 50), .inr (.ptr 22 0), .inr (.sl 79), .inl sI_, .inl (.row 1), .inl sI_, .inl sI_, .inl sU_, .inl sU_]] 18446744073709551616 1)])] f).getD []) [(7, .cut [.rg 8 (.row 5)] [0, 1, 13, 14, 15]), (14, .unroll 3), (17, .cut [.rg 12 .b, .ob 20 27, .ob 34 31, .ob 48 31, .ob 22 30, .cx 23 [.inr (.ptr 20 0), .inr (.sl 50), .inr (.ptr 22 0), .inr (.sl 79), .inl sI_, .inl (.row 1), .inl sI_, .inl sI_, .inl sU_, .inl sU_]] [0, 1, 13, 14, 15, 17, 18, 19, 50, 51, 79, 80, 84]), (18, .loopR [.rg 13 sI_] 18446744073709551616 0), (12, .cut [.rg 58 .b] [0, 1, 13, 14, 15, 17, 18, 19, 20, 22, 23, 34, 48, 50, 51, 79, 80, 83, 84])] fun x => by kernel_rfl
end
section
open Go Go.RowKit
set_option maxRecDepth 100000
variable [Tb]
noncomputable def abu (y0 : List Int) (y1 : List Int) (y2 : Bool) : Option ((Bool × Unit) × (Unit)) :=
 (aou y0 ([])).bind fun r1 =>
 if (!r1.1.1) = true then
  some ((true, ()), (()))
 else
 if 1200 < ((y1.length : Nat) : Int) then
  some ((true, ()), (()))
 else
 (af5 y0).bind fun r2 =>
 (akl y1 600).bind fun r3 =>
 ((
  if y2 = true then
   (abp r2.1.1).bind fun r4 =>
   if (((r4.1.1.length + r3.1.1.length : Nat)) : Int) < 1000000000000 then
    some (r4.1.1 ++ r3.1.1, ())
   else none
  else
  some (r3.1.1, ())
 ) : Option (List EntV × Unit)).bind fun z5 =>
 (ad7 r2.1.1).bind fun r6 =>
 if r6.1.2.1 ≠ 0 then
  if r6.1.2.1 ≠ 0 then
   (aaF).bind fun r7 =>
   if (!r7.1.1) = true then
    some ((false, ()), (()))
   else
   some ((false, ()), (()))
  else
  (aaF).bind fun r8 =>
  if (!r8.1.1) = true then
   some ((false, ()), (()))
  else
  some ((false, ()), (()))
 else
 (afX r2.1.1).bind fun r9 =>
 if r2.1.1.workers = ((3 : Nat) : Int) then
  (adb 0).bind fun r10 =>
  (adb 1).bind fun r11 =>
  (adb 2).bind fun r12 =>
  (lpF (anK z5.1) 18446744073709551616 (0, r6.1.1, r10.1.1, r11.1.1, r12.1.1, r9.1.1, (0, [], 0, 0, 0, 0, ()), ())).bind fun z14 =>
  (aaF).bind fun r33 =>
  if (!r33.1.1) = true then
   some ((false, ()), (()))
  else
  (abR z14.2.1.m).bind fun r34 =>
  ((
   (aa8 r2.1.1).bind fun r35 =>
   if ((r34.1.1.length : Nat) : Int) ≠ r35.1.1 then
    some (true, ())
   else
   if 0 ≤ (2 : Int) ∧ (2 : Int) < ((r34.1.1.length : Nat) : Int) then
    some (decide ((wu (r2.1.1.heap)) < (aeo r34.1.1 2)), ())
   else none
  ) : Option (Bool × Unit)).bind fun z36 =>
  if z36.1 = true then
   some ((false, ()), (()))
  else
  if 0 < r2.1.1.workers then
   ((
    (aal z14.2.2.1).bind fun r37 =>
    if r37.1.1 = 0 then
     some (true, ({ z14.2.1 with m := r34.2.1 } : EnvP), r37.2.1, z14.2.2.2.1, z14.2.2.2.2.1, z14.2.2.2.2.2.1, z14.2.2.2.2.2.2.1, ())
    else
    (aal r37.2.1).bind fun r38 =>
    some (decide (r38.1.1 = 3), ({ z14.2.1 with m := r34.2.1 } : EnvP), r38.2.1, z14.2.2.2.1, z14.2.2.2.2.1, z14.2.2.2.2.2.1, z14.2.2.2.2.2.2.1, ())
   ) : Option (Bool × EnvP × (WorkerV MV) × (WorkerV MV) × (WorkerV MV) × (ClientV MV) × (Int × List Int × Int × Int × Int × Int × Unit) × Unit)).bind fun z39 =>
   asy r2.1.1 r34.1.1 z5.1.length z39.1 0 (
     if 1 < r2.1.1.workers then
      ((
       (aal z39.2.2.2.1).bind fun r44 =>
       if r44.1.1 = 0 then
        some (true, z39.2.1, z39.2.2.1, r44.2.1, z39.2.2.2.2.1, z39.2.2.2.2.2.1, z39.2.2.2.2.2.2.1, ())
       else
       (aal r44.2.1).bind fun r45 =>
       some (decide (r45.1.1 = 3), z39.2.1, z39.2.2.1, r45.2.1, z39.2.2.2.2.1, z39.2.2.2.2.2.1, z39.2.2.2.2.2.2.1, ())
      ) : Option (Bool × EnvP × (WorkerV MV) × (WorkerV MV) × (WorkerV MV) × (ClientV MV) × (Int × List Int × Int × Int × Int × Int × Unit) × Unit)).bind fun z46 =>
      asy r2.1.1 r34.1.1 z5.1.length z46.1 1 (
        if 2 < r2.1.1.workers then
         ((
          (aal z46.2.2.2.2.1).bind fun r51 =>
          if r51.1.1 = 0 then
           some (true, z46.2.1, z46.2.2.1, z46.2.2.2.1, r51.2.1, z46.2.2.2.2.2.1, z46.2.2.2.2.2.2.1, ())
          else
          (aal r51.2.1).bind fun r52 =>
          some (decide (r52.1.1 = 3), z46.2.1, z46.2.2.1, z46.2.2.2.1, r52.2.1, z46.2.2.2.2.2.1, z46.2.2.2.2.2.2.1, ())
         ) : Option (Bool × EnvP × (WorkerV MV) × (WorkerV MV) × (WorkerV MV) × (ClientV MV) × (Int × List Int × Int × Int × Int × Int × Unit) × Unit)).bind fun z53 =>
         asy r2.1.1 r34.1.1 z5.1.length z53.1 2 (
           if 3 < r2.1.1.workers then
            ((
             (aaB z53.2.2.2.2.2.1).bind fun r58 =>
             if r58.1.1 = 0 then
              some (true, z53.2.1, z53.2.2.1, z53.2.2.2.1, z53.2.2.2.2.1, r58.2.1, z53.2.2.2.2.2.2.1, ())
             else
             (aaB r58.2.1).bind fun r59 =>
             some (decide (r59.1.1 = 3), z53.2.1, z53.2.2.1, z53.2.2.2.1, z53.2.2.2.2.1, r59.2.1, z53.2.2.2.2.2.2.1, ())
            ) : Option (Bool × EnvP × (WorkerV MV) × (WorkerV MV) × (WorkerV MV) × (ClientV MV) × (Int × List Int × Int × Int × Int × Int × Unit) × Unit)).bind fun z60 =>
            asy r2.1.1 r34.1.1 z5.1.length z60.1 3 (
              none
            )
           else
           some ((true, ()), (()))
         )
        else
        some ((true, ()), (()))
      )
     else
     some ((true, ()), (()))
   )
  else
  some ((true, ()), (()))
 else
 none
noncomputable abbrev afI : Con SR1 := ⟨3, [.sh (.ro 17), .sh (.ro 17), .sh .b], [.sh .b], fun x => abu x.1 x.2.1 x.2.2.1⟩
noncomputable def afb : List (Nat × Func) := [(9, Tryz.f9), (22, Tryz.f22), (41, Tryz.f41), (16, Tryz.f16), (23, Tryz.f23), (11, Tryz.f11), (13, Tryz.f13)]
theorem afc : CO Tryz.prog afI := aaq aap Tryz.func3 [alp, ahv, ai5, ab2, aeI, ab1, afs, afi, abQ, adc, ach, ab7, acQ, adj, acd, acC, ab0, abI, abZ, abJ] ⟨alo, ahu, ajB, acM, aeW, acL, afW, afL, acn, adu, acH, acy, adi, ady, acB, ac8, acK, ab3, acJ, ab6, trivial⟩ afb ⟨Tryz.func9, Tryz.func22, Tryz.func41, Tryz.func16, Tryz.func23, Tryz.func11, Tryz.func13, trivial⟩ (fun f => (get [(22, [(6, .spl 22 [3] 4)]), (41, [(2, .unroll 4)]), (16, [(1, .loop [.rg 8 sI_, .ob 20 27, .ob 34 31, .ob 48 31, .ob 62 31, .ob 22 30, .cx 23 [.inr (.ptr 20 0), .inr (.sl 64), .inr (.ptr 22 0), .inr (.sl 96), .inl sI_, .inl (.row 1), .inl sI_, .inl sI_, .inl sU_, .inl sU_]] 18446744073709551616 0)]), (23, [(9, .cut [.ob 20 27, .ob 34 31, .ob 48 31, .ob 62 31, .ob 22 30, .cx 23 [.inr (.ptr 20 0), .inr (.sl 64), .inr (.ptr 22 0), .inr (.sl 96), .inl sI_, .inl (.row 1), .inl sI_, .inl sI_, .inl sU_, .inl sU_]] [0, 1, 13, 14, 99, 100, 101]), (12, .loop [.ob 20 27, .cx 23 [.inr (.ptr 20 0), .inr (.sl 64), .inr (.ptr 22 0), .inr (.sl 96), .inl sI_, .inl (.row 1), .inl sI_, .inl sI_, .inl sU_, .inl sU_]] 18446744073709551616 1)])] f).getD []) [(7, .cut [.rg 8 (.row 5)] [0, 1, 13, 14, 15]), (14, .unroll 4), (17, .cut [.rg 12 .b, .ob 20 27, .ob 34 31, .ob 48 31, .ob 62 31, .ob 22 30, .cx 23 [.inr (.ptr 20 0), .inr (.sl 64), .inr (.ptr 22 0), .inr (.sl 96), .inl sI_, .inl (.row 1), .inl sI_, .inl sI_, .inl sU_, .inl sU_]] [0, 1, 13, 14, 15, 17, 18, 19, 64, 65, 96, 97, 101]), (18, .loopR [.rg 13 sI_] 18446744073709551616 0), (12, .cut [.rg 58 .b] [0, 1, 13, 14, 15, 17, 18, 19, 20, 22, 23, 34, 48, 62, 64, 65, 96, 97, 100, 101])] fun x => by kernel_rfl
end
section
open Go Go.RowKit
set_option maxRecDepth 100000
variable [Tb]
noncomputable def abt (y0 : List Int) (y1 : List Int) (y2 : Bool) : Option ((Bool × Unit) × (Unit)) :=
 (aou y0 ([])).bind fun r1 =>
 if (!r1.1.1) = true then
  some ((true, ()), (()))
 else
 if 1200 < ((y1.length : Nat) : Int) then
  some ((true, ()), (()))
 else
 (af5 y0).bind fun r2 =>
 (akl y1 600).bind fun r3 =>
 ((
  if y2 = true then
   (abp r2.1.1).bind fun r4 =>
   if (((r4.1.1.length + r3.1.1.length : Nat)) : Int) < 1000000000000 then
    some (r4.1.1 ++ r3.1.1, ())
   else none
  else
  some (r3.1.1, ())
 ) : Option (List EntV × Unit)).bind fun z5 =>
 (ad7 r2.1.1).bind fun r6 =>
 if r6.1.2.1 ≠ 0 then
  if r6.1.2.1 ≠ 0 then
   (aaF).bind fun r7 =>
   if (!r7.1.1) = true then
    some ((false, ()), (()))
   else
   some ((false, ()), (()))
  else
  (aaF).bind fun r8 =>
  if (!r8.1.1) = true then
   some ((false, ()), (()))
  else
  some ((false, ()), (()))
 else
 (afX r2.1.1).bind fun r9 =>
 if r2.1.1.workers = ((4 : Nat) : Int) then
  (adb 0).bind fun r10 =>
  (adb 1).bind fun r11 =>
  (adb 2).bind fun r12 =>
  (adb 3).bind fun r13 =>
  (lpF (anJ z5.1) 18446744073709551616 (0, r6.1.1, r10.1.1, r11.1.1, r12.1.1, r13.1.1, r9.1.1, (0, [], 0, 0, 0, 0, ()), ())).bind fun z15 =>
  (aaF).bind fun r35 =>
  if (!r35.1.1) = true then
   some ((false, ()), (()))
  else
  (abR z15.2.1.m).bind fun r36 =>
  ((
   (aa8 r2.1.1).bind fun r37 =>
   if ((r36.1.1.length : Nat) : Int) ≠ r37.1.1 then
    some (true, ())
   else
   if 0 ≤ (2 : Int) ∧ (2 : Int) < ((r36.1.1.length : Nat) : Int) then
    some (decide ((wu (r2.1.1.heap)) < (aeo r36.1.1 2)), ())
   else none
  ) : Option (Bool × Unit)).bind fun z38 =>
  if z38.1 = true then
   some ((false, ()), (()))
  else
  if 0 < r2.1.1.workers then
   ((
    (aal z15.2.2.1).bind fun r39 =>
    if r39.1.1 = 0 then
     some (true, ({ z15.2.1 with m := r36.2.1 } : EnvP), r39.2.1, z15.2.2.2.1, z15.2.2.2.2.1, z15.2.2.2.2.2.1, z15.2.2.2.2.2.2.1, z15.2.2.2.2.2.2.2.1, ())
    else
    (aal r39.2.1).bind fun r40 =>
    some (decide (r40.1.1 = 3), ({ z15.2.1 with m := r36.2.1 } : EnvP), r40.2.1, z15.2.2.2.1, z15.2.2.2.2.1, z15.2.2.2.2.2.1, z15.2.2.2.2.2.2.1, z15.2.2.2.2.2.2.2.1, ())
   ) : Option (Bool × EnvP × (WorkerV MV) × (WorkerV MV) × (WorkerV MV) × (WorkerV MV) × (ClientV MV) × (Int × List Int × Int × Int × Int × Int × Unit) × Unit)).bind fun z41 =>
   asy r2.1.1 r36.1.1 z5.1.length z41.1 0 (
     if 1 < r2.1.1.workers then
      ((
       (aal z41.2.2.2.1).bind fun r46 =>
       if r46.1.1 = 0 then
        some (true, z41.2.1, z41.2.2.1, r46.2.1, z41.2.2.2.2.1, z41.2.2.2.2.2.1, z41.2.2.2.2.2.2.1, z41.2.2.2.2.2.2.2.1, ())
       else
       (aal r46.2.1).bind fun r47 =>
       some (decide (r47.1.1 = 3), z41.2.1, z41.2.2.1, r47.2.1, z41.2.2.2.2.1, z41.2.2.2.2.2.1, z41.2.2.2.2.2.2.1, z41.2.2.2.2.2.2.2.1, ())
      ) : Option (Bool × EnvP × (WorkerV MV) × (WorkerV MV) × (WorkerV MV) × (WorkerV MV) × (ClientV MV) × (Int × List Int × Int × Int × Int × Int × Unit) × Unit)).bind fun z48 =>
      asy r2.1.1 r36.1.1 z5.1.length z48.1 1 (
        if 2 < r2.1.1.workers then
         ((
          (aal z48.2.2.2.2.1).bind fun r53 =>
          if r53.1.1 = 0 then
           some (true, z48.2.1, z48.2.2.1, z48.2.2.2.1, r53.2.1, z48.2.2.2.2.2.1, z48.2.2.2.2.2.2.1, z48.2.2.2.2.2.2.2.1, ())
          else
          (aal r53.2.1).bind fun r54 =>
          some (decide (r54.1.1 = 3), z48.2.1, z48.2.2.1, z48.2.2.2.1, r54.2.1, z48.2.2.2.2.2.1, z48.2.2.2.2.2.2.1, z48.2.2.2.2.2.2.2.1, ())
         ) : Option (Bool × EnvP × (WorkerV MV) × (WorkerV MV) × (WorkerV MV) × (WorkerV MV) × (ClientV MV) × (Int × List Int × Int × Int × Int × Int × Unit) × Unit)).bind fun z55 =>
         asy r2.1.1 r36.1.1 z5.1.length z55.1 2 (
           if 3 < r2.1.1.workers then
            ((
             (aal z55.2.2.2.2.2.1).bind fun r60 =>
             if r60.1.1 = 0 then
              some (true, z55.2.1, z55.2.2.1, z55.2.2.2.1, z55.2.2.2.2.1, r60.2.1, z55.2.2.2.2.2.2.1, z55.2.2.2.2.2.2.2.1, ())
             else
             (aal r60.2.1).bind fun r61 =>
             some (decide (r61.1.1 = 3), z55.2.1, z55.2.2.1, z55.2.2.2.1, z55.2.2.2.2.1, r61.2.1, z55.2.2.2.2.2.2.1, z55.2.2.2.2.2.2.2.1, ())
            ) : Option (Bool × EnvP × (WorkerV MV) × (WorkerV MV) × (WorkerV MV) × (WorkerV MV) × (ClientV MV) × (Int × List Int × Int × Int × Int × Int × Unit) × Unit)).bind fun z62 =>
            asy r2.1.1 r36.1.1 z5.1.length z62.1 3 (
              if 4 < r2.1.1.workers then
               ((
                (aaB z62.2.2.2.2.2.2.1).bind fun r67 =>
                if r67.1.1 = 0 then
                 some (true, z62.2.1, z62.2.2.1, z62.2.2.2.1, z62.2.2.2.2.1, z62.2.2.2.2.2.1, r67.2.1, z62.2.2.2.2.2.2.2.1, ())
                else
                (aaB r67.2.1).bind fun r68 =>
                some (decide (r68.1.1 = 3), z62.2.1, z62.2.2.1, z62.2.2.2.1, z62.2.2.2.2.1, z62.2.2.2.2.2.1, r68.2.1, z62.2.2.2.2.2.2.2.1, ())
               ) : Option (Bool × EnvP × (WorkerV MV) × (WorkerV MV) × (WorkerV MV) × (WorkerV MV) × (ClientV MV) × (Int × List Int × Int × Int × Int × Int × Unit) × Unit)).bind fun z69 =>
               asy r2.1.1 r36.1.1 z5.1.length z69.1 4 (
                 none
               )
              else
              some ((true, ()), (()))
            )
           else
           some ((true, ()), (()))
         )
        else
        some ((true, ()), (()))
      )
     else
     some ((true, ()), (()))
   )
  else
  some ((true, ()), (()))
 else
 none
noncomputable abbrev afH : Con SR1 := ⟨3, [.sh (.ro 17), .sh (.ro 17), .sh .b], [.sh .b], fun x => abt x.1 x.2.1 x.2.2.1⟩
noncomputable def ae9 : List (Nat × Func) := [(9, Tryz.f9), (22, Tryz.f22), (41, Tryz.f41), (16, Tryz.f16), (23, Tryz.f23), (11, Tryz.f11), (13, Tryz.f13)]
theorem afa : CO Tryz.prog afH := aaq aap Tryz.func3 [alp, ahv, ai5, ab2, aeI, ab1, afs, afi, abQ, adc, ach, ab7, acQ, adj, acd, acC, ab0, abI, abZ, abJ] ⟨alo, ahu, ajB, acM, aeW, acL, afW, afL, acn, adu, acH, acy, adi, ady, acB, ac8, acK, ab3, acJ, ab6, trivial⟩ ae9 ⟨Tryz.func9, Tryz.func22, Tryz.func41, Tryz.func16, Tryz.func23, Tryz.func11, Tryz.func13, trivial⟩ (fun f => (get [(22, [(6, .spl 22 [4] 5)]), (41, [(2, .unroll 5)]), (16, [(1, .loop [.rg 8 sI_, .ob 20 27, .ob 34 31, .ob 48 31, .ob 62 31, .ob 76 31, .ob 22 30, .cx 23 [.inr (.ptr 20 0), .inr (.sl 78), .inr (.ptr 22 0), .inr (.sl 113), .inl sI_, .inl (.row 1), .inl sI_, .inl sI_, .inl sU_, .inl sU_]] 18446744073709551616 0)]), (23, [(9, .cut [.ob 20 27, .ob 34 31, .ob 48 31, .ob 62 31, .ob 76 31, .ob 22 30, .cx 23 [.inr (.ptr 20 0), .inr (.sl 78), .inr (.ptr 22 0), .inr (.sl 113), .inl sI_, .inl (.row 1), .inl sI_, .inl sI_, .inl sU_, .inl sU_]] [0, 1, 13, 14, 116, 117, 118]), (12, .loop [.ob 20 27, .cx 23 [.inr (.ptr 20 0), .inr (.sl 78), .inr (.ptr 22 0), .inr (.sl 113), .inl sI_, .inl (.row 1), .inl sI_, .inl sI_, .inl sU_, .inl sU_]] 18446744073709551616 1)])] f).getD []) [(7, .cut [.rg 8 (.row 5)] [0, 1, 13, 14, 15]), (14, .unroll 5), (17, .cut [.rg 12 .b, .ob 20 27, .ob 34 31, .ob 48 31, .ob 62 31, .ob 76 31, .ob 22 30, .cx 23 [.inr (.ptr 20 0), .inr (.sl 78), .inr (.ptr 22 0), .inr (.sl 113), .inl sI_, .inl (.row 1), .inl sI_, .inl sI_, .inl sU_, .inl sU_]] [0, 1, 13, 14, 15, 17, 18, 19, 78, 79, 113, 114, 118]), (18, .loopR [.rg 13 sI_] 18446744073709551616 0), (12, .cut [.rg 58 .b] [0, 1, 13, 14, 15, 17, 18, 19, 20, 22, 23, 34, 48, 62, 76, 78, 79, 113, 114, 117, 118])] fun x => by kernel_rfl
end
section
open Go Go.RowKit
set_option maxRecDepth 100000
variable [Tb]
theorem alF : aaF = some ((true, ()), ()) := by kernel_rfl
theorem atX {c : Cfg} {N : Nat} {env : EnvP} {w0 : WorkerV MV} {cl : ClientV MV} {eng : arA} {i : Int} {l : List EntV} (h : JN c N env [w0] cl) (hN : N ≤ 100000) :
    aaV (anI l (i, env, w0, cl, eng, ()) ((env.m.count, ()), (env.m, ()))) fun z => JN c (N + 1) z.1 [z.2.1] z.2.2.1 ∧ z.2.2.2.1 = eng := by
  unfold anI
  refine aaV.ite (fun hk => ?_) fun hk => aaV.ite (fun _ => ?_) fun _ => aaV.ite (fun _ => ?_) fun _ => ?_
  · refine (ale (n := 2) (by decide) hk).bind fun o ho => ?_
    refine aaV.ite (fun _ => ?_) fun n1 => aaV.ite (fun _ => ?_) fun n0 => ?_
    · exact (h.step_c hN).bind fun o ho => .some_ ⟨ho, rfl⟩
    · exact (h.step_w hN (j := 0) rfl).bind fun o ho => .some_ ⟨ho, rfl⟩
    · exfalso; have m0 : ¬ o.1.1 = ((0 : Nat) : Int) := n0; have m1 : ¬ o.1.1 = ((1 : Nat) : Int) := n1; omega
  · exact ⟨_, rfl, h.clk.next, rfl⟩
  · exact ⟨_, rfl, h.clk.next, rfl⟩
  · exact ⟨_, rfl, h.next, rfl⟩
theorem atT {c : Cfg} {env : EnvP} {w0 : WorkerV MV} {cl : ClientV MV} {eng : arA} {l : List EntV} (hl : l.length ≤ 1000) (h : JN c 0 env [w0] cl) (hg : eng.2.1.length ≤ 1) :
    aaV (lpF (anM l) 18446744073709551616 (0, env, w0, cl, eng, ())) fun z => JN c l.length z.2.1 [z.2.2.1] z.2.2.2.1 := by
  refine aez (fun x => 0 ≤ x.1 ∧ x.1 ≤ (l.length : Int) ∧ JN c x.1.toNat x.2.1 [x.2.2.1] x.2.2.2.1 ∧ x.2.2.2.2.1.2.1.length ≤ 1 + 3 * x.1.toNat) (fun x => (l.length : Int).toNat - x.1.toNat) (fun self x hx ih => ?_) _ _ ⟨Int.le_refl 0, by show (0 : Int) ≤ _; omega, h, hg⟩ (by show _ - _ < _; omega)
  obtain ⟨i, env, w0, cl, eng, ⟨⟩⟩ := x
  obtain ⟨q1, q2, h, hg⟩ := hx
  simp only at q1 q2 h hg
  unfold anM
  refine aaV.ite (fun hlt => ?_) fun hge => .some_ ?iend
  case iend =>
    have hge : ¬ i < (l.length : Int) := hge
    have : i.toNat = l.length := by omega
    rw [this] at h
    exact h
  have hlt : i < (l.length : Int) := hlt
  refine aaV.guard ⟨q1, hlt⟩ fun _ => ?_
  rw [alw, bnd]
  refine (atX (i := i) (l := l) (eng := eng) h (by omega)).bind fun z hz => ?_
  obtain ⟨ze, z0, zc, zg, ⟨⟩⟩ := z
  obtain ⟨a3, ag⟩ := hz
  simp only at a3 ag
  subst ag
  refine ajo (N := 1 + 3 * (i.toNat + 1)) a3.ev (by show zg.2.1.length ≤ _; omega) (by omega) fun eng' he _ => ?_
  have ei : wi (i + 1) = i + 1 := aaW (aaC (by omega))
  have en : i.toNat + 1 = (i + 1).toNat := by omega
  rw [en] at a3 he
  show aaV (self (wi (i + 1), ze, z0, zc, eng', ())) _
  rw [ei]
  exact ih _ ⟨by show 0 ≤ i + 1; omega, by show i + 1 ≤ _; omega, a3, he⟩ (by show _ - (i + 1).toNat < _ - i.toNat; omega)
theorem aqL {y0 y1 : List Int} {y2 : Bool} {o : (Cfg × Unit) × Unit} (e : af5 y0 = some o) (ho : DecOk o.1.1) (hw : o.1.1.workers = (((1 : Nat) : Int))) : aaV (aa5 y0 y1 y2) fun r => r.1.1 = true := by
  obtain ⟨⟨c, ⟨⟩⟩, ⟨⟩⟩ := o
  simp only at ho hw
  have hw' : c.workers = 1 := hw
  unfold aa5
  refine (ahi y0 [] (Nat.zero_le _)).bind fun r _ => aaV.ite (fun _ => .some_ rfl) fun _ => aaV.ite (fun _ => .some_ rfl) fun hlen => ?_
  obtain ⟨⟨⟨l0, ⟨⟩⟩, ⟨⟩⟩, es, hs⟩ := ajq (b := y1) (n := 600) (by omega) (by decide)
  have hs : l0.length ≤ 600 := hs
  rw [e, bnd, es, bnd]
  refine aaV.bind (P := fun z => z.1.length ≤ 800) ?ifst fun z hz => ?isnd
  case ifst =>
    refine aaV.ite (fun _ => ?_) fun _ => .some_ (by show l0.length ≤ 800; omega)
    refine (ajy ho).bind fun q hq => .guard (by show ((q.1.1.length + l0.length : Nat) : Int) < _; omega) fun _ => .some_ ?_
    show (q.1.1 ++ l0).length ≤ 800
    rw [List.length_append]; omega
  obtain ⟨l, ⟨⟩⟩ := z
  have hz : l.length ≤ 800 := hz
  rw [avb (ahB ho), bnd, if_neg (fun h => h rfl), avA ho, bnd, if_pos hw, ajV (l := aaz c) (j := 0), bnd]
  have hj : JN c 0 (apf c) [ahK (aaz c) 0 ⟨0, 0, 0, 0, .top⟩] (apg c.subs c.workers ⟨0, 0, false, .n1⟩) := ave ho (n := 1) rfl fun j w hj => by
    match j, hj with
    | 0, hj => exact (Option.some.inj hj).symm
  refine (atT (l := l) (eng := (0, [], 0, 0, 0, 0, ())) (by omega) hj (Nat.zero_le _)).bind fun z hz2 => ?_
  obtain ⟨zi, ze, z0, zc, zg, ⟨⟩⟩ := z
  have hz2 : JN c l.length ze [z0] zc := hz2
  rw [alF, bnd, if_neg (by decide), anv _ hz2.cells, bnd]
  refine (aqN hz2).bind fun b hb => ?_
  rw [if_neg (by rw [hb]; decide)]
  rw [if_pos (show (0 : Int) < c.workers by omega)]
  refine aaV.bind (afv hz2 (by omega) (j := 0) rfl (by omega) ⟨Nat.le_refl _, by omega⟩ (fun u => (ze, u, zc, zg, ()))) fun z90 h90 => ?_
  obtain ⟨b0, z90⟩ := z90
  obtain ⟨k0, h90⟩ := h90
  have k0 : z90 = _ := k0
  subst k0
  refine h90 ?_
  rw [if_neg (show ¬ (1 : Int) < c.workers by omega)]
  exact .some_ rfl
theorem atW {c : Cfg} {N : Nat} {env : EnvP} {w0 w1 : WorkerV MV} {cl : ClientV MV} {eng : arA} {i : Int} {l : List EntV} (h : JN c N env [w0, w1] cl) (hN : N ≤ 100000) :
    aaV (anH l (i, env, w0, w1, cl, eng, ()) ((env.m.count, ()), (env.m, ()))) fun z => JN c (N + 1) z.1 [z.2.1, z.2.2.1] z.2.2.2.1 ∧ z.2.2.2.2.1 = eng := by
  unfold anH
  refine aaV.ite (fun hk => ?_) fun hk => aaV.ite (fun _ => ?_) fun _ => aaV.ite (fun _ => ?_) fun _ => ?_
  · refine (ale (n := 3) (by decide) hk).bind fun o ho => ?_
    refine aaV.ite (fun _ => ?_) fun n2 => aaV.ite (fun _ => ?_) fun n1 => aaV.ite (fun _ => ?_) fun n0 => ?_
    · exact (h.step_c hN).bind fun o ho => .some_ ⟨ho, rfl⟩
    · exact (h.step_w hN (j := 1) rfl).bind fun o ho => .some_ ⟨ho, rfl⟩
    · exact (h.step_w hN (j := 0) rfl).bind fun o ho => .some_ ⟨ho, rfl⟩
    · exfalso; have m0 : ¬ o.1.1 = ((0 : Nat) : Int) := n0; have m1 : ¬ o.1.1 = ((1 : Nat) : Int) := n1; have m2 : ¬ o.1.1 = ((2 : Nat) : Int) := n2; omega
  · exact ⟨_, rfl, h.clk.next, rfl⟩
  · exact ⟨_, rfl, h.clk.next, rfl⟩
  · exact ⟨_, rfl, h.next, rfl⟩
theorem atS {c : Cfg} {env : EnvP} {w0 w1 : WorkerV MV} {cl : ClientV MV} {eng : arA} {l : List EntV} (hl : l.length ≤ 1000) (h : JN c 0 env [w0, w1] cl) (hg : eng.2.1.length ≤ 1) :
    aaV (lpF (anL l) 18446744073709551616 (0, env, w0, w1, cl, eng, ())) fun z => JN c l.length z.2.1 [z.2.2.1, z.2.2.2.1] z.2.2.2.2.1 := by
  refine aez (fun x => 0 ≤ x.1 ∧ x.1 ≤ (l.length : Int) ∧ JN c x.1.toNat x.2.1 [x.2.2.1, x.2.2.2.1] x.2.2.2.2.1 ∧ x.2.2.2.2.2.1.2.1.length ≤ 1 + 3 * x.1.toNat) (fun x => (l.length : Int).toNat - x.1.toNat) (fun self x hx ih => ?_) _ _ ⟨Int.le_refl 0, by show (0 : Int) ≤ _; omega, h, hg⟩ (by show _ - _ < _; omega)
  obtain ⟨i, env, w0, w1, cl, eng, ⟨⟩⟩ := x
  obtain ⟨q1, q2, h, hg⟩ := hx
  simp only at q1 q2 h hg
  unfold anL
  refine aaV.ite (fun hlt => ?_) fun hge => .some_ ?iend
  case iend =>
    have hge : ¬ i < (l.length : Int) := hge
    have : i.toNat = l.length := by omega
    rw [this] at h
    exact h
  have hlt : i < (l.length : Int) := hlt
  refine aaV.guard ⟨q1, hlt⟩ fun _ => ?_
  rw [alw, bnd]
  refine (atW (i := i) (l := l) (eng := eng) h (by omega)).bind fun z hz => ?_
  obtain ⟨ze, z0, z1, zc, zg, ⟨⟩⟩ := z
  obtain ⟨a3, ag⟩ := hz
  simp only at a3 ag
  subst ag
  refine ajo (N := 1 + 3 * (i.toNat + 1)) a3.ev (by show zg.2.1.length ≤ _; omega) (by omega) fun eng' he _ => ?_
  have ei : wi (i + 1) = i + 1 := aaW (aaC (by omega))
  have en : i.toNat + 1 = (i + 1).toNat := by omega
  rw [en] at a3 he
  show aaV (self (wi (i + 1), ze, z0, z1, zc, eng', ())) _
  rw [ei]
  exact ih _ ⟨by show 0 ≤ i + 1; omega, by show i + 1 ≤ _; omega, a3, he⟩ (by show _ - (i + 1).toNat < _ - i.toNat; omega)
theorem aqK {y0 y1 : List Int} {y2 : Bool} {o : (Cfg × Unit) × Unit} (e : af5 y0 = some o) (ho : DecOk o.1.1) (hw : o.1.1.workers = (((2 : Nat) : Int))) : aaV (abv y0 y1 y2) fun r => r.1.1 = true := by
  obtain ⟨⟨c, ⟨⟩⟩, ⟨⟩⟩ := o
  simp only at ho hw
  have hw' : c.workers = 2 := hw
  unfold abv
  refine (ahi y0 [] (Nat.zero_le _)).bind fun r _ => aaV.ite (fun _ => .some_ rfl) fun _ => aaV.ite (fun _ => .some_ rfl) fun hlen => ?_
  obtain ⟨⟨⟨l0, ⟨⟩⟩, ⟨⟩⟩, es, hs⟩ := ajq (b := y1) (n := 600) (by omega) (by decide)
  have hs : l0.length ≤ 600 := hs
  rw [e, bnd, es, bnd]
  refine aaV.bind (P := fun z => z.1.length ≤ 800) ?ifst fun z hz => ?isnd
  case ifst =>
    refine aaV.ite (fun _ => ?_) fun _ => .some_ (by show l0.length ≤ 800; omega)
    refine (ajy ho).bind fun q hq => .guard (by show ((q.1.1.length + l0.length : Nat) : Int) < _; omega) fun _ => .some_ ?_
    show (q.1.1 ++ l0).length ≤ 800
    rw [List.length_append]; omega
  obtain ⟨l, ⟨⟩⟩ := z
  have hz : l.length ≤ 800 := hz
  rw [avb (ahB ho), bnd, if_neg (fun h => h rfl), avA ho, bnd, if_pos hw, ajV (l := aaz c) (j := 0), bnd, ajV (l := aaz c) (j := 1), bnd]
  have hj : JN c 0 (apf c) [ahK (aaz c) 0 ⟨0, 0, 0, 0, .top⟩, ahK (aaz c) 1 ⟨0, 0, 0, 0, .top⟩] (apg c.subs c.workers ⟨0, 0, false, .n1⟩) := ave ho (n := 2) rfl fun j w hj => by
    match j, hj with
    | 0, hj => exact (Option.some.inj hj).symm
    | 1, hj => exact (Option.some.inj hj).symm
  refine (atS (l := l) (eng := (0, [], 0, 0, 0, 0, ())) (by omega) hj (Nat.zero_le _)).bind fun z hz2 => ?_
  obtain ⟨zi, ze, z0, z1, zc, zg, ⟨⟩⟩ := z
  have hz2 : JN c l.length ze [z0, z1] zc := hz2
  rw [alF, bnd, if_neg (by decide), anv _ hz2.cells, bnd]
  refine (aqN hz2).bind fun b hb => ?_
  rw [if_neg (by rw [hb]; decide)]
  rw [if_pos (show (0 : Int) < c.workers by omega)]
  refine aaV.bind (afv hz2 (by omega) (j := 0) rfl (by omega) ⟨Nat.le_refl _, by omega⟩ (fun u => (ze, u, z1, zc, zg, ()))) fun z90 h90 => ?_
  obtain ⟨b0, z90⟩ := z90
  obtain ⟨k0, h90⟩ := h90
  have k0 : z90 = _ := k0
  subst k0
  refine h90 ?_
  rw [if_pos (show (1 : Int) < c.workers by omega)]
  refine aaV.bind (afv hz2 (by omega) (j := 1) rfl (by omega) ⟨Nat.le_refl _, by omega⟩ (fun u => (ze, z0, u, zc, zg, ()))) fun z91 h91 => ?_
  obtain ⟨b1, z91⟩ := z91
  obtain ⟨k1, h91⟩ := h91
  have k1 : z91 = _ := k1
  subst k1
  refine h91 ?_
  rw [if_neg (show ¬ (2 : Int) < c.workers by omega)]
  exact .some_ rfl
theorem atV {c : Cfg} {N : Nat} {env : EnvP} {w0 w1 w2 : WorkerV MV} {cl : ClientV MV} {eng : arA} {i : Int} {l : List EntV} (h : JN c N env [w0, w1, w2] cl) (hN : N ≤ 100000) :
    aaV (anG l (i, env, w0, w1, w2, cl, eng, ()) ((env.m.count, ()), (env.m, ()))) fun z => JN c (N + 1) z.1 [z.2.1, z.2.2.1, z.2.2.2.1] z.2.2.2.2.1 ∧ z.2.2.2.2.2.1 = eng := by
  unfold anG
  refine aaV.ite (fun hk => ?_) fun hk => aaV.ite (fun _ => ?_) fun _ => aaV.ite (fun _ => ?_) fun _ => ?_
  · refine (ale (n := 4) (by decide) hk).bind fun o ho => ?_
    refine aaV.ite (fun _ => ?_) fun n3 => aaV.ite (fun _ => ?_) fun n2 => aaV.ite (fun _ => ?_) fun n1 => aaV.ite (fun _ => ?_) fun n0 => ?_
    · exact (h.step_c hN).bind fun o ho => .some_ ⟨ho, rfl⟩
    · exact (h.step_w hN (j := 2) rfl).bind fun o ho => .some_ ⟨ho, rfl⟩
    · exact (h.step_w hN (j := 1) rfl).bind fun o ho => .some_ ⟨ho, rfl⟩
    · exact (h.step_w hN (j := 0) rfl).bind fun o ho => .some_ ⟨ho, rfl⟩
    · exfalso; have m0 : ¬ o.1.1 = ((0 : Nat) : Int) := n0; have m1 : ¬ o.1.1 = ((1 : Nat) : Int) := n1; have m2 : ¬ o.1.1 = ((2 : Nat) : Int) := n2; have m3 : ¬ o.1.1 = ((3 : Nat) : Int) := n3; omega
  · exact ⟨_, rfl, h.clk.next, rfl⟩
  · exact ⟨_, rfl, h.clk.next, rfl⟩
  · exact ⟨_, rfl, h.next, rfl⟩
theorem atR {c : Cfg} {env : EnvP} {w0 w1 w2 : WorkerV MV} {cl : ClientV MV} {eng : arA} {l : List EntV} (hl : l.length ≤ 1000) (h : JN c 0 env [w0, w1, w2] cl) (hg : eng.2.1.length ≤ 1) :
    aaV (lpF (anK l) 18446744073709551616 (0, env, w0, w1, w2, cl, eng, ())) fun z => JN c l.length z.2.1 [z.2.2.1, z.2.2.2.1, z.2.2.2.2.1] z.2.2.2.2.2.1 := by
  refine aez (fun x => 0 ≤ x.1 ∧ x.1 ≤ (l.length : Int) ∧ JN c x.1.toNat x.2.1 [x.2.2.1, x.2.2.2.1, x.2.2.2.2.1] x.2.2.2.2.2.1 ∧ x.2.2.2.2.2.2.1.2.1.length ≤ 1 + 3 * x.1.toNat) (fun x => (l.length : Int).toNat - x.1.toNat) (fun self x hx ih => ?_) _ _ ⟨Int.le_refl 0, by show (0 : Int) ≤ _; omega, h, hg⟩ (by show _ - _ < _; omega)
  obtain ⟨i, env, w0, w1, w2, cl, eng, ⟨⟩⟩ := x
  obtain ⟨q1, q2, h, hg⟩ := hx
  simp only at q1 q2 h hg
  unfold anK
  refine aaV.ite (fun hlt => ?_) fun hge => .some_ ?iend
  case iend =>
    have hge : ¬ i < (l.length : Int) := hge
    have : i.toNat = l.length := by omega
    rw [this] at h
    exact h
  have hlt : i < (l.length : Int) := hlt
  refine aaV.guard ⟨q1, hlt⟩ fun _ => ?_
  rw [alw, bnd]
  refine (atV (i := i) (l := l) (eng := eng) h (by omega)).bind fun z hz => ?_
  obtain ⟨ze, z0, z1, z2, zc, zg, ⟨⟩⟩ := z
  obtain ⟨a3, ag⟩ := hz
  simp only at a3 ag
  subst ag
  refine ajo (N := 1 + 3 * (i.toNat + 1)) a3.ev (by show zg.2.1.length ≤ _; omega) (by omega) fun eng' he _ => ?_
  have ei : wi (i + 1) = i + 1 := aaW (aaC (by omega))
  have en : i.toNat + 1 = (i + 1).toNat := by omega
  rw [en] at a3 he
  show aaV (self (wi (i + 1), ze, z0, z1, z2, zc, eng', ())) _
  rw [ei]
  exact ih _ ⟨by show 0 ≤ i + 1; omega, by show i + 1 ≤ _; omega, a3, he⟩ (by show _ - (i + 1).toNat < _ - i.toNat; omega)
theorem aqJ {y0 y1 : List Int} {y2 : Bool} {o : (Cfg × Unit) × Unit} (e : af5 y0 = some o) (ho : DecOk o.1.1) (hw : o.1.1.workers = (((3 : Nat) : Int))) : aaV (abu y0 y1 y2) fun r => r.1.1 = true := by
  obtain ⟨⟨c, ⟨⟩⟩, ⟨⟩⟩ := o
  simp only at ho hw
  have hw' : c.workers = 3 := hw
  unfold abu
  refine (ahi y0 [] (Nat.zero_le _)).bind fun r _ => aaV.ite (fun _ => .some_ rfl) fun _ => aaV.ite (fun _ => .some_ rfl) fun hlen => ?_
  obtain ⟨⟨⟨l0, ⟨⟩⟩, ⟨⟩⟩, es, hs⟩ := ajq (b := y1) (n := 600) (by omega) (by decide)
  have hs : l0.length ≤ 600 := hs
  rw [e, bnd, es, bnd]
  refine aaV.bind (P := fun z => z.1.length ≤ 800) ?ifst fun z hz => ?isnd
  case ifst =>
    refine aaV.ite (fun _ => ?_) fun _ => .some_ (by show l0.length ≤ 800; omega)
    refine (ajy ho).bind fun q hq => .guard (by show ((q.1.1.length + l0.length : Nat) : Int) < _; omega) fun _ => .some_ ?_
    show (q.1.1 ++ l0).length ≤ 800
    rw [List.length_append]; omega
  obtain ⟨l, ⟨⟩⟩ := z
  have hz : l.length ≤ 800 := hz
  rw [avb (ahB ho), bnd, if_neg (fun h => h rfl), avA ho, bnd, if_pos hw, ajV (l := aaz c) (j := 0), bnd, ajV (l := aaz c) (j := 1), bnd, ajV (l := aaz c) (j := 2), bnd]
  have hj : JN c 0 (apf c) [ahK (aaz c) 0 ⟨0, 0, 0, 0, .top⟩, ahK (aaz c) 1 ⟨0, 0, 0, 0, .top⟩, ahK (aaz c) 2 ⟨0, 0, 0, 0, .top⟩] (apg c.subs c.workers ⟨0, 0, false, .n1⟩) := ave ho (n := 3) rfl fun j w hj => by
    match j, hj with
    | 0, hj => exact (Option.some.inj hj).symm
    | 1, hj => exact (Option.some.inj hj).symm
    | 2, hj => exact (Option.some.inj hj).symm
  refine (atR (l := l) (eng := (0, [], 0, 0, 0, 0, ())) (by omega) hj (Nat.zero_le _)).bind fun z hz2 => ?_
  obtain ⟨zi, ze, z0, z1, z2, zc, zg, ⟨⟩⟩ := z
  have hz2 : JN c l.length ze [z0, z1, z2] zc := hz2
  rw [alF, bnd, if_neg (by decide), anv _ hz2.cells, bnd]
  refine (aqN hz2).bind fun b hb => ?_
  rw [if_neg (by rw [hb]; decide)]
  rw [if_pos (show (0 : Int) < c.workers by omega)]
  refine aaV.bind (afv hz2 (by omega) (j := 0) rfl (by omega) ⟨Nat.le_refl _, by omega⟩ (fun u => (ze, u, z1, z2, zc, zg, ()))) fun z90 h90 => ?_
  obtain ⟨b0, z90⟩ := z90
  obtain ⟨k0, h90⟩ := h90
  have k0 : z90 = _ := k0
  subst k0
  refine h90 ?_
  rw [if_pos (show (1 : Int) < c.workers by omega)]
  refine aaV.bind (afv hz2 (by omega) (j := 1) rfl (by omega) ⟨Nat.le_refl _, by omega⟩ (fun u => (ze, z0, u, z2, zc, zg, ()))) fun z91 h91 => ?_
  obtain ⟨b1, z91⟩ := z91
  obtain ⟨k1, h91⟩ := h91
  have k1 : z91 = _ := k1
  subst k1
  refine h91 ?_
  rw [if_pos (show (2 : Int) < c.workers by omega)]
  refine aaV.bind (afv hz2 (by omega) (j := 2) rfl (by omega) ⟨Nat.le_refl _, by omega⟩ (fun u => (ze, z0, z1, u, zc, zg, ()))) fun z92 h92 => ?_
  obtain ⟨b2, z92⟩ := z92
  obtain ⟨k2, h92⟩ := h92
  have k2 : z92 = _ := k2
  subst k2
  refine h92 ?_
  rw [if_neg (show ¬ (3 : Int) < c.workers by omega)]
  exact .some_ rfl
theorem atU {c : Cfg} {N : Nat} {env : EnvP} {w0 w1 w2 w3 : WorkerV MV} {cl : ClientV MV} {eng : arA} {i : Int} {l : List EntV} (h : JN c N env [w0, w1, w2, w3] cl) (hN : N ≤ 100000) :
    aaV (anF l (i, env, w0, w1, w2, w3, cl, eng, ()) ((env.m.count, ()), (env.m, ()))) fun z => JN c (N + 1) z.1 [z.2.1, z.2.2.1, z.2.2.2.1, z.2.2.2.2.1] z.2.2.2.2.2.1 ∧ z.2.2.2.2.2.2.1 = eng := by
  unfold anF
  refine aaV.ite (fun hk => ?_) fun hk => aaV.ite (fun _ => ?_) fun _ => aaV.ite (fun _ => ?_) fun _ => ?_
  · refine (ale (n := 5) (by decide) hk).bind fun o ho => ?_
    refine aaV.ite (fun _ => ?_) fun n4 => aaV.ite (fun _ => ?_) fun n3 => aaV.ite (fun _ => ?_) fun n2 => aaV.ite (fun _ => ?_) fun n1 => aaV.ite (fun _ => ?_) fun n0 => ?_
    · exact (h.step_c hN).bind fun o ho => .some_ ⟨ho, rfl⟩
    · exact (h.step_w hN (j := 3) rfl).bind fun o ho => .some_ ⟨ho, rfl⟩
    · exact (h.step_w hN (j := 2) rfl).bind fun o ho => .some_ ⟨ho, rfl⟩
    · exact (h.step_w hN (j := 1) rfl).bind fun o ho => .some_ ⟨ho, rfl⟩
    · exact (h.step_w hN (j := 0) rfl).bind fun o ho => .some_ ⟨ho, rfl⟩
    · exfalso; have m0 : ¬ o.1.1 = ((0 : Nat) : Int) := n0; have m1 : ¬ o.1.1 = ((1 : Nat) : Int) := n1; have m2 : ¬ o.1.1 = ((2 : Nat) : Int) := n2; have m3 : ¬ o.1.1 = ((3 : Nat) : Int) := n3; have m4 : ¬ o.1.1 = ((4 : Nat) : Int) := n4; omega
  · exact ⟨_, rfl, h.clk.next, rfl⟩
  · exact ⟨_, rfl, h.clk.next, rfl⟩
  · exact ⟨_, rfl, h.next, rfl⟩
theorem atQ {c : Cfg} {env : EnvP} {w0 w1 w2 w3 : WorkerV MV} {cl : ClientV MV} {eng : arA} {l : List EntV} (hl : l.length ≤ 1000) (h : JN c 0 env [w0, w1, w2, w3] cl) (hg : eng.2.1.length ≤ 1) :
    aaV (lpF (anJ l) 18446744073709551616 (0, env, w0, w1, w2, w3, cl, eng, ())) fun z => JN c l.length z.2.1 [z.2.2.1, z.2.2.2.1, z.2.2.2.2.1, z.2.2.2.2.2.1] z.2.2.2.2.2.2.1 := by
  refine aez (fun x => 0 ≤ x.1 ∧ x.1 ≤ (l.length : Int) ∧ JN c x.1.toNat x.2.1 [x.2.2.1, x.2.2.2.1, x.2.2.2.2.1, x.2.2.2.2.2.1] x.2.2.2.2.2.2.1 ∧ x.2.2.2.2.2.2.2.1.2.1.length ≤ 1 + 3 * x.1.toNat) (fun x => (l.length : Int).toNat - x.1.toNat) (fun self x hx ih => ?_) _ _ ⟨Int.le_refl 0, by show (0 : Int) ≤ _; omega, h, hg⟩ (by show _ - _ < _; omega)
  obtain ⟨i, env, w0, w1, w2, w3, cl, eng, ⟨⟩⟩ := x
  obtain ⟨q1, q2, h, hg⟩ := hx
  simp only at q1 q2 h hg
  unfold anJ
  refine aaV.ite (fun hlt => ?_) fun hge => .some_ ?iend
  case iend =>
    have hge : ¬ i < (l.length : Int) := hge
    have : i.toNat = l.length := by omega
    rw [this] at h
    exact h
  have hlt : i < (l.length : Int) := hlt
  refine aaV.guard ⟨q1, hlt⟩ fun _ => ?_
  rw [alw, bnd]
  refine (atU (i := i) (l := l) (eng := eng) h (by omega)).bind fun z hz => ?_
  obtain ⟨ze, z0, z1, z2, z3, zc, zg, ⟨⟩⟩ := z
  obtain ⟨a3, ag⟩ := hz
  simp only at a3 ag
  subst ag
  refine ajo (N := 1 + 3 * (i.toNat + 1)) a3.ev (by show zg.2.1.length ≤ _; omega) (by omega) fun eng' he _ => ?_
  have ei : wi (i + 1) = i + 1 := aaW (aaC (by omega))
  have en : i.toNat + 1 = (i + 1).toNat := by omega
  rw [en] at a3 he
  show aaV (self (wi (i + 1), ze, z0, z1, z2, z3, zc, eng', ())) _
  rw [ei]
  exact ih _ ⟨by show 0 ≤ i + 1; omega, by show i + 1 ≤ _; omega, a3, he⟩ (by show _ - (i + 1).toNat < _ - i.toNat; omega)
theorem aqI {y0 y1 : List Int} {y2 : Bool} {o : (Cfg × Unit) × Unit} (e : af5 y0 = some o) (ho : DecOk o.1.1) (hw : o.1.1.workers = (((4 : Nat) : Int))) : aaV (abt y0 y1 y2) fun r => r.1.1 = true := by
  obtain ⟨⟨c, ⟨⟩⟩, ⟨⟩⟩ := o
  simp only at ho hw
  have hw' : c.workers = 4 := hw
  unfold abt
  refine (ahi y0 [] (Nat.zero_le _)).bind fun r _ => aaV.ite (fun _ => .some_ rfl) fun _ => aaV.ite (fun _ => .some_ rfl) fun hlen => ?_
  obtain ⟨⟨⟨l0, ⟨⟩⟩, ⟨⟩⟩, es, hs⟩ := ajq (b := y1) (n := 600) (by omega) (by decide)
  have hs : l0.length ≤ 600 := hs
  rw [e, bnd, es, bnd]
  refine aaV.bind (P := fun z => z.1.length ≤ 800) ?ifst fun z hz => ?isnd
  case ifst =>
    refine aaV.ite (fun _ => ?_) fun _ => .some_ (by show l0.length ≤ 800; omega)
    refine (ajy ho).bind fun q hq => .guard (by show ((q.1.1.length + l0.length : Nat) : Int) < _; omega) fun _ => .some_ ?_
    show (q.1.1 ++ l0).length ≤ 800
    rw [List.length_append]; omega
  obtain ⟨l, ⟨⟩⟩ := z
  have hz : l.length ≤ 800 := hz
  rw [avb (ahB ho), bnd, if_neg (fun h => h rfl), avA ho, bnd, if_pos hw, ajV (l := aaz c) (j := 0), bnd, ajV (l := aaz c) (j := 1), bnd, ajV (l := aaz c) (j := 2), bnd, ajV (l := aaz c) (j := 3), bnd]
  have hj : JN c 0 (apf c) [ahK (aaz c) 0 ⟨0, 0, 0, 0, .top⟩, ahK (aaz c) 1 ⟨0, 0, 0, 0, .top⟩, ahK (aaz c) 2 ⟨0, 0, 0, 0, .top⟩, ahK (aaz c) 3 ⟨0, 0, 0, 0, .top⟩] (apg c.subs c.workers ⟨0, 0, false, .n1⟩) := ave ho (n := 4) rfl fun j w hj => by
    match j, hj with
    | 0, hj => exact (Option.some.inj hj).symm
    | 1, hj => exact (Option.some.inj hj).symm
    | 2, hj => exact (Option.some.inj hj).symm
    | 3, hj => exact (Option.some.inj hj).symm
  refine (atQ (l := l) (eng := (0, [], 0, 0, 0, 0, ())) (by omega) hj (Nat.zero_le _)).bind fun z hz2 => ?_
  obtain ⟨zi, ze, z0, z1, z2, z3, zc, zg, ⟨⟩⟩ := z
  have hz2 : JN c l.length ze [z0, z1, z2, z3] zc := hz2
  rw [alF, bnd, if_neg (by decide), anv _ hz2.cells, bnd]
  refine (aqN hz2).bind fun b hb => ?_
  rw [if_neg (by rw [hb]; decide)]
  rw [if_pos (show (0 : Int) < c.workers by omega)]
  refine aaV.bind (afv hz2 (by omega) (j := 0) rfl (by omega) ⟨Nat.le_refl _, by omega⟩ (fun u => (ze, u, z1, z2, z3, zc, zg, ()))) fun z90 h90 => ?_
  obtain ⟨b0, z90⟩ := z90
  obtain ⟨k0, h90⟩ := h90
  have k0 : z90 = _ := k0
  subst k0
  refine h90 ?_
  rw [if_pos (show (1 : Int) < c.workers by omega)]
  refine aaV.bind (afv hz2 (by omega) (j := 1) rfl (by omega) ⟨Nat.le_refl _, by omega⟩ (fun u => (ze, z0, u, z2, z3, zc, zg, ()))) fun z91 h91 => ?_
  obtain ⟨b1, z91⟩ := z91
  obtain ⟨k1, h91⟩ := h91
  have k1 : z91 = _ := k1
  subst k1
  refine h91 ?_
  rw [if_pos (show (2 : Int) < c.workers by omega)]
  refine aaV.bind (afv hz2 (by omega) (j := 2) rfl (by omega) ⟨Nat.le_refl _, by omega⟩ (fun u => (ze, z0, z1, u, z3, zc, zg, ()))) fun z92 h92 => ?_
  obtain ⟨b2, z92⟩ := z92
  obtain ⟨k2, h92⟩ := h92
  have k2 : z92 = _ := k2
  subst k2
  refine h92 ?_
  rw [if_pos (show (3 : Int) < c.workers by omega)]
  refine aaV.bind (afv hz2 (by omega) (j := 3) rfl (by omega) ⟨Nat.le_refl _, by omega⟩ (fun u => (ze, z0, z1, z2, u, zc, zg, ()))) fun z93 h93 => ?_
  obtain ⟨b3, z93⟩ := z93
  obtain ⟨k3, h93⟩ := h93
  have k3 : z93 = _ := k3
  subst k3
  refine h93 ?_
  rw [if_neg (show ¬ (4 : Int) < c.workers by omega)]
  exact .some_ rfl
theorem atO {y0 y1 : List Int} {y2 : Bool} (hb : ∀ x ∈ y0, 0 ≤ x ∧ x ≤ 255) :
    aaV (aa5 y0 y1 y2) (fun r => r.1.1 = true) ∨ aaV (abv y0 y1 y2) (fun r => r.1.1 = true) ∨ aaV (abu y0 y1 y2) (fun r => r.1.1 = true) ∨ aaV (abt y0 y1 y2) (fun r => r.1.1 = true) := by
  by_cases hl : y0.length ≤ 400
  · obtain ⟨o, e, ho⟩ := at9 hb (by omega)
    have hw := ho.w
    have hv : o.1.1.workers = ((1 : Nat) : Int) ∨ o.1.1.workers = ((2 : Nat) : Int) ∨ o.1.1.workers = ((3 : Nat) : Int) ∨ o.1.1.workers = ((4 : Nat) : Int) := by omega
    rcases hv with h | h | h | h
    · exact .inl (aqL e ho h)
    · exact .inr (.inl (aqK e ho h))
    · exact .inr (.inr (.inl (aqJ e ho h)))
    · exact .inr (.inr (.inr (aqI e ho h)))
  · refine .inl ?_
    unfold aa5
    refine (ahi y0 [] (Nat.zero_le _)).bind fun r hr => aaV.ite (fun _ => .some_ rfl) fun h => ?_
    exfalso
    have h1 : r.1.1 = true := by revert h; cases r.1.1 <;> simp
    exact hl (hr h1).1
end
end Go.Proofs.YtclaldommncdbaaGreat
