/- A task that a worker runs alone: the memory. A task that a worker runs alone: the states. A task that a worker runs alone: a step. A task that a worker runs alone: the steps of its parts. A task that a worker runs alone: joining, and every step. What a step of running a task leaves. -/
import Derived.Test.YtlcelajkhklkbaaGreatAqas
import Derived.Test.YtlcelajkhklkbaaGreatAqar
set_option linter.all false
namespace Go.Proofs.YtlcelajkhklkbaaGreat
section
open Go Go.RowKit
set_option maxRecDepth 1000000
def ai3 (p q : List Ins) (d : Int) : Cfg := ⟨1, 2, 1, 12, d, 1, 1, 0, 1, [p, q], []⟩
def ajO (d : Nat) : LayV := auV (ai3 [] [] (d : Int))
def TA (d : Nat) : Int := 12 + 2 * (d : Int)
def aok (f : Nat → Int) (t : Nat) (x : Int) : Nat → Int := fun v => if v = t then x else f v
theorem aA4 {xs : List Int} {a v : Int} (h : 0 ≤ a ∧ a < (xs.length : Int)) : afD (xs.set a.toNat v) a = v := by
  show (((xs.set a.toNat v)[a.toNat]?).getD _) = v
  rw [List.getElem?_set_self (by omega)]; rfl
theorem gtP {e : EnvP} {k a v b : Int} (ha : 0 ≤ a ∧ a < (e.m.cells.length : Int)) : (e.pt k a v).gt b = if b = a then v else e.gt b := by
  show (e.m.pt k a v).gt b = if _ then v else e.m.gt b
  unfold MemV.pt
  rw [if_pos ha]
  unfold MemV.gt
  simp only [List.length_set]
  by_cases hb : 0 ≤ b ∧ b < (e.m.cells.length : Int)
  · rw [if_pos hb, if_pos hb]
    by_cases hab : b = a
    · rw [if_pos hab, hab, aA4 ha]
    · rw [if_neg hab]
      show atL _ (e.m.cells.set a.toNat v) b = atL _ e.m.cells b
      unfold atL
      rw [List.getElem?_set_ne (by omega)]
  · rw [if_neg hb, if_neg hb, if_neg (fun (h : b = a) => hb (by rw [h]; exact ha))]
theorem apI {e : EnvP} {k a v : Int} : (e.pt k a v).m.cells.length = e.m.cells.length := by
  show (e.m.pt k a v).cells.length = _
  unfold MemV.pt
  split
  · simp
  · rfl
theorem azz {e : EnvP} {a o : Int} (ha : 0 ≤ a ∧ a < (e.m.cells.length : Int)) : e.hit a o = true ↔ e.gt a = o := by
  show e.m.hit a o = true ↔ e.m.gt a = o
  unfold MemV.hit MemV.gt
  rw [if_pos ha, decide_eq_true_iff]
  exact ⟨fun h => h.2, fun h => ⟨ha, h⟩⟩
theorem azm {e : EnvP} {a o v : Int} : e.cas a o v = e.pt 3 a (if e.gt a = o then v else e.gt a) := rfl
theorem lkP {e : EnvP} {a : Int} : e.lk a = e.pt 1 a (e.gt a) := rfl
theorem wuN {x : Int} (h : 0 ≤ x ∧ x ≤ 1000000000000) : wu x = x := by
  show Int.emod x 18446744073709551616 = x
  exact Int.emod_eq_of_lt h.1 (by omega)
theorem wuP (x : Int) : 0 ≤ wu x := Int.emod_nonneg x (by decide)
def qA (d v : Nat) : QV := ⟨8 + v * (2 + d), 9 + v * (2 + d), 10 + v * (2 + d), d⟩
theorem ayt {d v : Nat} (hd : d = 1 ∨ d = 2 ∨ d = 3) (hv : v < 2) : adT (ajO d) 0 (v : Int) = qA d v := by
  rcases hd with rfl | rfl | rfl <;> rcases v with _ | _ | v
  all_goals first | exact absurd hv (by omega) | kernel_rfl
theorem bmA {d : Nat} (hd : d = 1 ∨ d = 2 ∨ d = 3) : aiX (ajO d) 0 = 7 := by
  rcases hd with rfl | rfl | rfl <;> kernel_rfl
theorem agF {d t : Nat} (hd : d = 1 ∨ d = 2 ∨ d = 3) (ht : t < 12) : adn (ajO d) (t : Int) = TA d + 5 * t ∧ afW (ajO d) (t : Int) = TA d + 5 * t + 1 ∧ af7 (ajO d) (t : Int) = TA d + 5 * t + 2 ∧ agi (ajO d) (t : Int) = TA d + 5 * t + 3 ∧ aqD (ajO d) (t : Int) = TA d + 5 * t + 4 := by
  rcases hd with rfl | rfl | rfl <;> rcases t with _ | _ | _ | _ | _ | _ | _ | _ | _ | _ | _ | _ | t
  all_goals first | exact absurd ht (by omega) | exact ⟨by kernel_rfl, by kernel_rfl, by kernel_rfl, by kernel_rfl, by kernel_rfl⟩
theorem axP {d v : Nat} (hd : d = 1 ∨ d = 2 ∨ d = 3) (hv : v < 2) {i : Int} (hi : 0 ≤ i) : 8 ≤ aqk (qA d v) i ∧ aqk (qA d v) i < TA d := by
  have e1 : wu ((d : Nat) : Int) = (d : Int) := wuN (by omega)
  have h1 := aj3 (a := i) (b := (d : Int)) (by omega) hi
  unfold aqk qA TA
  dsimp only
  rw [if_neg (by omega), e1, acp (x := Int.tmod i (d : Int)) (abc (by omega))]
  rcases v with _ | _ | v
  · rw [acp (abc (by omega))]; omega
  · rw [acp (abc (by omega))]; omega
  · omega
structure FA (d k : Nat) (sf lf jf wf : Nat → Int) (e : EnvP) : Prop where
  hd : d = 1 ∨ d = 2 ∨ d = 3
  len : e.m.cells.length = 72 + 2 * d
  l : e.l = ajO d
  rl : e.recs.length = 12
  nn : ∀ a, 0 ≤ e.gt a
  nx : e.gt 0 = (k : Int) + 1
  sl : e.gt 5 = 0
  st : ∀ t : Nat, t < 12 → e.gt (TA d + 5 * t) = sf t
  lv : ∀ t : Nat, t < 12 → e.gt (TA d + 5 * t + 1) = lf t
  jn : ∀ t : Nat, t < 12 → e.gt (TA d + 5 * t + 2) = jf t
  wt : ∀ t : Nat, t < 12 → e.gt (TA d + 5 * t + 3) = wf t
section
variable {d k : Nat} {sf lf jf wf : Nat → Int} {e : EnvP} {a x c : Int} {t : Nat}
theorem FA.in (h : FA d k sf lf jf wf e) (ha : 0 ≤ a ∧ a < 72 + 2 * (d : Int)) : 0 ≤ a ∧ a < (e.m.cells.length : Int) := by rw [h.len]; omega
theorem FA.nn_pt (h : FA d k sf lf jf wf e) (ha : 0 ≤ a ∧ a < 72 + 2 * (d : Int)) (hx : 0 ≤ x) (b : Int) : 0 ≤ (e.pt c a x).gt b := by
  rw [gtP (h.in ha)]
  split
  · exact hx
  · exact h.nn b
theorem FA.pt (h : FA d k sf lf jf wf e) (ha : (6 ≤ a ∧ a < TA d) ∨ ∃ t : Nat, t < 12 ∧ a = TA d + 5 * t + 4) (hx : 0 ≤ x) : FA d k sf lf jf wf (e.pt c a x) := by
  have hT : TA d = 12 + 2 * (d : Int) := rfl
  have hr : 0 ≤ a ∧ a < 72 + 2 * (d : Int) := by rcases ha with ha | ⟨t, h1, h2⟩ <;> omega
  have hi := h.in hr
  refine ⟨h.hd, by rw [apI]; exact h.len, h.l, h.rl, h.nn_pt hr hx, ?_, ?_, fun t ht => ?_, fun t ht => ?_, fun t ht => ?_, fun t ht => ?_⟩ <;> rw [gtP hi, if_neg (by rcases ha with ha | ⟨t', h1, h2⟩ <;> omega)]
  · exact h.nx
  · exact h.sl
  · exact h.st t ht
  · exact h.lv t ht
  · exact h.jn t ht
  · exact h.wt t ht
theorem FA.pt_st (h : FA d k sf lf jf wf e) (ht : t < 12) (hx : 0 ≤ x) : FA d k (aok sf t x) lf jf wf (e.pt c (TA d + 5 * t) x) := by
  have hT : TA d = 12 + 2 * (d : Int) := rfl
  have hr : 0 ≤ TA d + 5 * (t : Int) ∧ TA d + 5 * (t : Int) < 72 + 2 * (d : Int) := by omega
  have hi := h.in hr
  refine ⟨h.hd, by rw [apI]; exact h.len, h.l, h.rl, h.nn_pt hr hx, ?_, ?_, fun u hu => ?_, fun u hu => ?_, fun u hu => ?_, fun u hu => ?_⟩ <;> rw [gtP hi]
  · rw [if_neg (by omega)]; exact h.nx
  · rw [if_neg (by omega)]; exact h.sl
  · unfold aok
    by_cases q : u = t
    · subst q; rw [if_pos rfl, if_pos rfl]
    · rw [if_neg (by omega), if_neg q]; exact h.st u hu
  · rw [if_neg (by omega)]; exact h.lv u hu
  · rw [if_neg (by omega)]; exact h.jn u hu
  · rw [if_neg (by omega)]; exact h.wt u hu
theorem FA.pt_lv (h : FA d k sf lf jf wf e) (ht : t < 12) (hx : 0 ≤ x) : FA d k sf (aok lf t x) jf wf (e.pt c (TA d + 5 * t + 1) x) := by
  have hT : TA d = 12 + 2 * (d : Int) := rfl
  have hr : 0 ≤ TA d + 5 * (t : Int) + 1 ∧ TA d + 5 * (t : Int) + 1 < 72 + 2 * (d : Int) := by omega
  have hi := h.in hr
  refine ⟨h.hd, by rw [apI]; exact h.len, h.l, h.rl, h.nn_pt hr hx, ?_, ?_, fun u hu => ?_, fun u hu => ?_, fun u hu => ?_, fun u hu => ?_⟩ <;> rw [gtP hi]
  · rw [if_neg (by omega)]; exact h.nx
  · rw [if_neg (by omega)]; exact h.sl
  · rw [if_neg (by omega)]; exact h.st u hu
  · unfold aok
    by_cases q : u = t
    · subst q; rw [if_pos rfl, if_pos rfl]
    · rw [if_neg (by omega), if_neg q]; exact h.lv u hu
  · rw [if_neg (by omega)]; exact h.jn u hu
  · rw [if_neg (by omega)]; exact h.wt u hu
theorem FA.pt_jn (h : FA d k sf lf jf wf e) (ht : t < 12) (hx : 0 ≤ x) : FA d k sf lf (aok jf t x) wf (e.pt c (TA d + 5 * t + 2) x) := by
  have hT : TA d = 12 + 2 * (d : Int) := rfl
  have hr : 0 ≤ TA d + 5 * (t : Int) + 2 ∧ TA d + 5 * (t : Int) + 2 < 72 + 2 * (d : Int) := by omega
  have hi := h.in hr
  refine ⟨h.hd, by rw [apI]; exact h.len, h.l, h.rl, h.nn_pt hr hx, ?_, ?_, fun u hu => ?_, fun u hu => ?_, fun u hu => ?_, fun u hu => ?_⟩ <;> rw [gtP hi]
  · rw [if_neg (by omega)]; exact h.nx
  · rw [if_neg (by omega)]; exact h.sl
  · rw [if_neg (by omega)]; exact h.st u hu
  · rw [if_neg (by omega)]; exact h.lv u hu
  · unfold aok
    by_cases q : u = t
    · subst q; rw [if_pos rfl, if_pos rfl]
    · rw [if_neg (by omega), if_neg q]; exact h.jn u hu
  · rw [if_neg (by omega)]; exact h.wt u hu
theorem FA.pt_wt (h : FA d k sf lf jf wf e) (ht : t < 12) (hx : 0 ≤ x) : FA d k sf lf jf (aok wf t x) (e.pt c (TA d + 5 * t + 3) x) := by
  have hT : TA d = 12 + 2 * (d : Int) := rfl
  have hr : 0 ≤ TA d + 5 * (t : Int) + 3 ∧ TA d + 5 * (t : Int) + 3 < 72 + 2 * (d : Int) := by omega
  have hi := h.in hr
  refine ⟨h.hd, by rw [apI]; exact h.len, h.l, h.rl, h.nn_pt hr hx, ?_, ?_, fun u hu => ?_, fun u hu => ?_, fun u hu => ?_, fun u hu => ?_⟩ <;> rw [gtP hi]
  · rw [if_neg (by omega)]; exact h.nx
  · rw [if_neg (by omega)]; exact h.sl
  · rw [if_neg (by omega)]; exact h.st u hu
  · rw [if_neg (by omega)]; exact h.lv u hu
  · rw [if_neg (by omega)]; exact h.jn u hu
  · unfold aok
    by_cases q : u = t
    · subst q; rw [if_pos rfl, if_pos rfl]
    · rw [if_neg (by omega), if_neg q]; exact h.wt u hu
theorem FA.pt_nx (h : FA d k sf lf jf wf e) : FA d (k + 1) sf lf jf wf (e.pt c 0 ((k : Int) + 2)) := by
  have hT : TA d = 12 + 2 * (d : Int) := rfl
  have hr : 0 ≤ (0 : Int) ∧ (0 : Int) < 72 + 2 * (d : Int) := by omega
  have hi := h.in hr
  refine ⟨h.hd, by rw [apI]; exact h.len, h.l, h.rl, h.nn_pt hr (by omega), ?_, ?_, fun u hu => ?_, fun u hu => ?_, fun u hu => ?_, fun u hu => ?_⟩ <;> rw [gtP hi]
  · rw [if_pos rfl]; omega
  · rw [if_neg (by omega)]; exact h.sl
  · rw [if_neg (by omega)]; exact h.st u hu
  · rw [if_neg (by omega)]; exact h.lv u hu
  · rw [if_neg (by omega)]; exact h.jn u hu
  · rw [if_neg (by omega)]; exact h.wt u hu
theorem FA.lk (h : FA d k sf lf jf wf e) (ha : 0 ≤ a ∧ a < 72 + 2 * (d : Int)) : FA d k sf lf jf wf (e.lk a) := by
  have hi := h.in ha
  have hg : ∀ b, (e.lk a).gt b = e.gt b := fun b => by
    rw [lkP, gtP hi]
    split
    · rename_i q; rw [q]
    · rfl
  refine ⟨h.hd, by rw [lkP, apI]; exact h.len, h.l, h.rl, fun b => by rw [hg]; exact h.nn b, by rw [hg]; exact h.nx, by rw [hg]; exact h.sl, fun u hu => by rw [hg]; exact h.st u hu, fun u hu => by rw [hg]; exact h.lv u hu, fun u hu => by rw [hg]; exact h.jn u hu, fun u hu => by rw [hg]; exact h.wt u hu⟩
theorem FA.em {w t' o v : Int} (h : FA d k sf lf jf wf e) : FA d k sf lf jf wf (e.em c w t' o v) := ⟨h.hd, h.len, h.l, h.rl, h.nn, h.nx, h.sl, h.st, h.lv, h.jn, h.wt⟩
theorem FA.pr {y : Int} {z : RecP} (h : FA d k sf lf jf wf e) : FA d k sf lf jf wf (e.pr y z) := ⟨h.hd, h.len, h.l, by show (e.recs.set _ z).length = 12; rw [List.length_set]; exact h.rl, h.nn, h.nx, h.sl, h.st, h.lv, h.jn, h.wt⟩
theorem FA.fn {sf' lf' jf' wf' : Nat → Int} (h : FA d k sf lf jf wf e) (h1 : ∀ t, t < 12 → sf' t = sf t) (h2 : ∀ t, t < 12 → lf' t = lf t) (h3 : ∀ t, t < 12 → jf' t = jf t) (h4 : ∀ t, t < 12 → wf' t = wf t) : FA d k sf' lf' jf' wf' e :=
  ⟨h.hd, h.len, h.l, h.rl, h.nn, h.nx, h.sl, fun t ht => by rw [h1 t ht]; exact h.st t ht, fun t ht => by rw [h2 t ht]; exact h.lv t ht, fun t ht => by rw [h3 t ht]; exact h.jn t ht, fun t ht => by rw [h4 t ht]; exact h.wt t ht⟩
theorem arT {y : Nat} {z : RecP} (hl : e.recs.length = 12) (hy : y < 12) (u : Nat) : (e.pr (y : Int) z).rc (u : Int) = if u = y then z else e.rc (u : Int) := by
  show (((e.recs.set ((y : Int)).toNat z)[((u : Int)).toNat]?).getD _) = _
  rw [Int.toNat_natCast, Int.toNat_natCast]
  by_cases q : u = y
  · subst q
    rw [if_pos rfl, List.getElem?_set_self (by omega)]; rfl
  · rw [if_neg q, List.getElem?_set_ne (by omega)]
    show _ = (((e.recs)[((u : Int)).toNat]?).getD _)
    rw [Int.toNat_natCast]
def aqS : LPushS → Prop
  | .new => True
  | .push (.l2 b) => 0 ≤ b
  | .push (.l3 b) => 0 ≤ b
  | .push (.l4 b) => 0 ≤ b
  | .push .l1 => False
  | .set => True
def aoE : LPushS → Nat
  | .new => 5
  | .push (.l2 _) => 4
  | .push (.l3 _) => 3
  | .push (.l4 _) => 2
  | .push .l1 => 5
  | .set => 1
structure Same (e e' : EnvP) : Prop where
  c : e'.c = e.c
  recs : e'.recs = e.recs
  evs : e'.evs = e.evs
theorem asp (h : FA d k sf lf jf wf e) {v : Nat} (hv : v < 2) {y : Int} {s : LPushS} (hs : aqS s) :
    ∃ e', FA d k sf lf jf wf e' ∧ Same e e' ∧ ((∃ s', acj 0 (v : Int) y e s = (.go s', e') ∧ aqS s' ∧ aoE s' < aoE s) ∨ (∃ z, acj 0 (v : Int) y e s = (.fin 0 z, e')) ∨ ∃ z, acj 0 (v : Int) y e s = (.fin 3 z, e')) := by
  have hd := h.hd
  have hq : adT e.l 0 (v : Int) = qA d v := by rw [h.l]; exact ayt hd hv
  have hb : aiX e.l 0 = 7 := by rw [h.l]; exact bmA hd
  have hT : TA d = 12 + 2 * (d : Int) := rfl
  have hbo : 6 ≤ 9 + (v : Int) * (2 + d) ∧ 9 + (v : Int) * (2 + d) < TA d := by
    rcases v with _ | _ | v <;> omega
  have hto : 6 ≤ 8 + (v : Int) * (2 + d) ∧ 8 + (v : Int) * (2 + d) < TA d := by
    rcases v with _ | _ | v <;> omega
  cases s with
  | new =>
    refine ⟨e.lk (9 + v * (2 + d)), h.lk (by omega), ⟨rfl, rfl, rfl⟩, .inl ⟨.push (.l2 (e.gt (9 + v * (2 + d)))), ?_, h.nn _, by show 4 < 5; decide⟩⟩
    simp only [acj, hq, qA, afx]
  | push s =>
    cases s with
    | l1 => exact hs.elim
    | l2 b =>
      by_cases hc : ((d : Nat) : Int) ≤ szP b (e.gt (8 + v * (2 + d)))
      · refine ⟨e.lk (8 + v * (2 + d)), h.lk (by omega), ⟨rfl, rfl, rfl⟩, .inr (.inr ⟨0, ?_⟩)⟩
        simp only [acj, hq, qA, afx, if_pos hc, if_true]
      · refine ⟨e.lk (8 + v * (2 + d)), h.lk (by omega), ⟨rfl, rfl, rfl⟩, .inl ⟨.push (.l3 b), ?_, hs, by show 3 < 4; decide⟩⟩
        simp only [acj, hq, qA, afx, if_neg hc]
    | l3 b =>
      have hcell := axP hd hv (i := b) hs
      refine ⟨e.pt 2 (aqk (qA d v) b) (wu y), h.pt (.inl (by omega)) (wuP y), ⟨rfl, rfl, rfl⟩, .inl ⟨.push (.l4 b), ?_, hs, by show 2 < 3; decide⟩⟩
      simp only [acj, hq, afx]
    | l4 b =>
      refine ⟨e.pt 2 (9 + v * (2 + d)) (wu (b + 1)), h.pt (.inl (by omega)) (wuP _), ⟨rfl, rfl, rfl⟩, .inl ⟨.set, ?_, trivial, by show 1 < 2; decide⟩⟩
      simp only [acj, hq, qA, afx, if_neg (show ¬ (0 : Int) = 3 by decide)]
  | set =>
    refine ⟨e.pt 4 7 (orU (e.gt 7) (ax4 (v : Int))), h.pt (.inl (by omega)) (wuP _), ⟨rfl, rfl, rfl⟩, .inr (.inl ⟨0, ?_⟩)⟩
    simp only [acj, hb, azu]
end
end
section
open Go Go.RowKit
set_option maxRecDepth 1000000
variable [Tb]
def FO (p q : List Ins) (d : Nat) (evs : List Ev) (s : SaV) : Prop := ∃ s0, abj (cJ p q (d : Int)) = some ((s0, ()), ()) ∧ afM (⟨1, 1, 0, 0, 0⟩ :: evs) s0 = some s
theorem FO.snoc {p q : List Ins} {d : Nat} {evs : List Ev} {s s' : SaV} {e : Ev} (h : FO p q d evs s) (hd : aal s e = some ((true, ()), (s', ()))) : FO p q d (evs ++ [e]) s' := by
  obtain ⟨s0, h1, h2⟩ := h
  refine ⟨s0, h1, ?_⟩
  show afM ((⟨1, 1, 0, 0, 0⟩ :: evs) ++ [e]) s0 = _
  rw [ao4, h2, abM]
  show (aal s e).bind _ = _
  rw [hd, abM, if_pos rfl]
  rfl
def ahB (pc left wt : Int) (k : Nat) : RecP := ⟨0, -1, pc, left, wt, acy k, true⟩
def avF (pc left : Int) : RecP := ⟨1, 0, pc, left, -1, [], true⟩
def apo (p : List Ins) : Prop := p.length ≤ 6 ∧ ∀ i ∈ p, (i.op = 0 ∧ (1 ≤ i.a ∧ i.a ≤ 4) ∧ i.b = 0) ∨ (i.op = 1 ∧ i.a = 1 ∧ (i.b = 0 ∨ i.b = 1)) ∨ (i.op = 2 ∧ (0 ≤ i.a ∧ i.a ≤ 2) ∧ i.b = 0)
def av1 (q : List Ins) : Prop := q.length ≤ 6 ∧ ∀ i ∈ q, (i.op = 0 ∧ (1 ≤ i.a ∧ i.a ≤ 4) ∧ i.b = 0) ∨ (i.op = 2 ∧ (0 ≤ i.a ∧ i.a ≤ 2) ∧ i.b = 0)
structure CM (p q : List Ins) (d a k : Nat) (ks : List TkV) (sf lf jf wf : Nat → Int) (e : EnvP) : Prop where
  f : FA d a sf lf jf wf e
  c : e.c = ai3 p q (d : Int)
  kl : ks.length = k
  kr : ∀ i u, ks[i]? = some u → (u.view.phase = 1 ∧ jf (i + 1) = 0) ∨ (u.view.phase = 4 ∧ jf (i + 1) = 4294967296)
  jz : ∀ t, k < t → t < 12 → jf t = 0
  j0 : jf 0 = 0
  l0 : lf 0 = 0
  lz : ∀ t, t < 12 → 0 ≤ lf t ∧ lf t ≤ 1
  wz : ∀ t, 0 < t → t < 12 → wf t = 0
structure PL (p : List Ins) (pc : Nat) (left : Int) : Prop where
  le : pc ≤ p.length
  lf : left = 0 ∨ (1 ≤ left ∧ left ≤ 4) ∧ ∃ i, p[pc]? = some i ∧ i.op = 0
def SK (p : List Ins) (m pc k : Nat) : Prop := m ≤ pc ∧ ∀ j, m ≤ j → j < pc → amE p (acy k) j
abbrev mZ (p q : List Ins) (d k m : Nat) (ks : List TkV) (st : List Int) (walk low up : Int) (last : Ev) : SaV := mJ p q (d : Int) (t0J 2 0 (-1) (m : Int) (acy k)) ks (wJ st walk low up last)
def muN (p : List Ins) (pc : Nat) (left : Int) : Nat := 60 * (p.length - pc) + 20 - (if left = 0 then 0 else 5 - left.toNat)
def muK (q : List Ins) (pc : Nat) (left : Int) : Nat := if left = 0 then 4 * (q.length - pc) else 4 * (q.length - pc - 1) + left.toNat
def muS : PublishS → Nat
  | .l1 => 38
  | .l2 => 37
  | .l3 => 36
inductive PA (p q : List Ins) (d : Nat) : RunS → EnvP → Nat → Prop
  | next {e : EnvP} {k : Nat} {ks : List TkV} {sf : Nat → Int} {lf : Nat → Int} {jf : Nat → Int} {wf : Nat → Int} {pc : Nat} {left : Int} {m : Nat} {id : Int} {ch : Int} {lv : Int} {wa : Int} {walk : Int} {low : Int} {up : Int} {last : Ev} (C : CM p q d k k ks sf lf jf wf e) (h : PL p pc left) (hk : k ≤ pc) (sk : SK p m pc k) (r0 : e.rc 0 = ahB pc left (-1) k) (fo : FO p q d e.evs (mZ p q d k m ks [0] walk low up last)) : PA p q d ⟨[0], id, ch, lv, wa, .next⟩ e (muN p pc left)
  | s2 {e : EnvP} {k : Nat} {ks : List TkV} {sf : Nat → Int} {lf : Nat → Int} {jf : Nat → Int} {wf : Nat → Int} {pc : Nat} {m : Nat} {ch : Int} {wa : Int} {walk : Int} {low : Int} {up : Int} {last : Ev} {s : PublishS} {b : Nat} (hb : b < 2) (C : CM p q d (k + 1) k ks sf lf jf wf e) (hi : p[pc]? = some ⟨1, 1, (b : Int)⟩) (hk : k ≤ pc) (sk : SK p m pc k) (r0 : e.rc 0 = ahB ((pc + 1 : Nat) : Int) 0 (-1) (k + 1)) (r1 : e.rc ((k + 1 : Nat) : Int) = asX 1 0) (fo : FO p q d e.evs (mZ p q d k m ks [0] walk low up last)) : PA p q d ⟨[0], ((k + 1 : Nat) : Int), ch, (b : Int), wa, .s2 s⟩ e (60 * (p.length - (pc + 1)) + 20 + muS s)
  | s3 {e : EnvP} {k : Nat} {ks : List TkV} {sf : Nat → Int} {lf : Nat → Int} {jf : Nat → Int} {wf : Nat → Int} {pc : Nat} {ch : Int} {wa : Int} {walk : Int} {low : Int} {up : Int} {w0 : Int} {o0 : Int} {l0 : Int} {s : LPushS} {b : Nat} (hb : b < 2) (hs : aqS s) (C : CM p q d (k + 1) (k + 1) (ks ++ [kdJ (b : Int) 1 (-1) 0]) sf lf jf wf e) (hp : pc ≤ p.length) (hk : k + 1 ≤ pc) (r0 : e.rc 0 = ahB (pc : Int) 0 (-1) (k + 1)) (r1 : e.rc ((k + 1 : Nat) : Int) = asX 1 0) (st : sf (k + 1) = 1) (fo : FO p q d e.evs (mZ p q d (k + 1) pc (ks ++ [kdJ (b : Int) 1 (-1) 0]) [0] walk low up ⟨3, w0, (k : Int) + 1, o0, l0⟩)) : PA p q d ⟨[0], ((k + 1 : Nat) : Int), ch, (b : Int), wa, .s3 s⟩ e (60 * (p.length - pc) + 20 + 29 + aoE s)
  | s5 {e : EnvP} {k : Nat} {ks : List TkV} {sf : Nat → Int} {lf : Nat → Int} {jf : Nat → Int} {wf : Nat → Int} {pc : Nat} {ch : Int} {wa : Int} {walk : Int} {low : Int} {up : Int} {w0 : Int} {o0 : Int} {l0 : Int} {lv : Int} {b : Nat} (hb : b < 2) (C : CM p q d (k + 1) (k + 1) (ks ++ [kdJ (b : Int) 1 (-1) 0]) sf lf jf wf e) (hp : pc ≤ p.length) (hk : k + 1 ≤ pc) (r0 : e.rc 0 = ahB (pc : Int) 0 (-1) (k + 1)) (r1 : e.rc ((k + 1 : Nat) : Int) = asX 1 0) (st : sf (k + 1) = 1) (fo : FO p q d e.evs (mZ p q d (k + 1) pc (ks ++ [kdJ (b : Int) 1 (-1) 0]) [0] walk low up ⟨3, w0, (k : Int) + 1, o0, l0⟩)) : PA p q d ⟨[0], ((k + 1 : Nat) : Int), ch, lv, wa, .s5⟩ e (60 * (p.length - pc) + 20 + 29)
  | s4 {e : EnvP} {k : Nat} {ks : List TkV} {sf : Nat → Int} {lf : Nat → Int} {jf : Nat → Int} {wf : Nat → Int} {pc : Nat} {id : Int} {ch : Int} {wa : Int} {walk : Int} {low : Int} {up : Int} {last : Ev} {b : Nat} (hb : b < 2) (C : CM p q d k k ks sf lf jf wf e) (hp : pc ≤ p.length) (hk : k ≤ pc) (r0 : e.rc 0 = ahB (pc : Int) 0 (-1) k) (fo : FO p q d e.evs (mZ p q d k pc ks [0] walk low up last)) : PA p q d ⟨[0], id, ch, (b : Int), wa, .s4 (.l1 0)⟩ e (60 * (p.length - pc) + 20 + 1)
  | kid {e : EnvP} {k : Nat} {ks : List TkV} {sf : Nat → Int} {lf : Nat → Int} {jf : Nat → Int} {wf : Nat → Int} {pc : Nat} {pk : Nat} {left : Int} {id : Int} {ch : Int} {lv : Int} {wa : Int} {walk : Int} {low : Int} {up : Int} {last : Ev} {b : Int} (F : FA d (k + 1) sf lf jf wf e) (C : ∀ e' sf' jf', FA d (k + 1) sf' lf jf' wf e' → e'.c = ai3 p q (d : Int) → (∀ t, t ≠ k + 1 → jf' t = jf t) → jf' (k + 1) = 4294967296 → ∀ z, CM p q d (k + 1) (k + 1) (ks ++ [kdJ b 4 (-1) z]) sf' lf jf' wf e') (c : e.c = ai3 p q (d : Int)) (k5 : k ≤ 5) (kl : ks.length = k) (jk : jf (k + 1) = 0) (hp : pc ≤ p.length) (hk : k + 1 ≤ pc) (r0 : e.rc 0 = ahB (pc : Int) 0 (-1) (k + 1)) (hq : PL q pk left) (r1 : e.rc ((k + 1 : Nat) : Int) = avF pk left) (fo : FO p q d e.evs (mZ p q d (k + 1) pc (ks ++ [kdJ b 2 0 0]) [0, (k : Int) + 1] walk low up last)) : PA p q d ⟨[0, ((k + 1 : Nat) : Int)], id, ch, lv, wa, .next⟩ e (60 * (p.length - pc) + 20 + 2 + muK q pk left)
  | kidf {e : EnvP} {k : Nat} {ks : List TkV} {sf : Nat → Int} {lf : Nat → Int} {jf : Nat → Int} {wf : Nat → Int} {pc : Nat} {id : Int} {ch : Int} {lv : Int} {wa : Int} {walk : Int} {low : Int} {up : Int} {last : Ev} {b : Int} (F : FA d (k + 1) sf lf jf wf e) (C : ∀ e' sf' jf', FA d (k + 1) sf' lf jf' wf e' → e'.c = ai3 p q (d : Int) → (∀ t, t ≠ k + 1 → jf' t = jf t) → jf' (k + 1) = 4294967296 → ∀ z, CM p q d (k + 1) (k + 1) (ks ++ [kdJ b 4 (-1) z]) sf' lf jf' wf e') (c : e.c = ai3 p q (d : Int)) (k5 : k ≤ 5) (kl : ks.length = k) (jk : jf (k + 1) = 0) (hp : pc ≤ p.length) (hk : k + 1 ≤ pc) (r0 : e.rc 0 = ahB (pc : Int) 0 (-1) (k + 1)) (fo : FO p q d e.evs (mZ p q d (k + 1) pc (ks ++ [kdJ b 2 0 0]) [0, (k : Int) + 1] walk low up last)) : PA p q d ⟨[0, ((k + 1 : Nat) : Int)], id, ch, lv, wa, .f2⟩ e (60 * (p.length - pc) + 20 + 1)
  | j2 {e : EnvP} {k : Nat} {ks : List TkV} {sf : Nat → Int} {lf : Nat → Int} {jf : Nat → Int} {wf : Nat → Int} {pc : Nat} {m : Nat} {i : Nat} {id : Int} {lv : Int} {wa : Int} {walk : Int} {low : Int} {up : Int} {last : Ev} (C : CM p q d k k ks sf lf jf wf e) (hi : p[pc]? = some ⟨2, ((i : Nat) : Int), 0⟩) (ik : i < k) (hk : k ≤ pc) (sk : SK p m pc k) (r0 : e.rc 0 = ahB ((pc + 1 : Nat) : Int) 0 ((i : Int) + 1) k) (fo : FO p q d e.evs (mZ p q d k m ks [0] walk low up last)) : PA p q d ⟨[0], id, (i : Int) + 1, lv, wa, .j2⟩ e (60 * (p.length - (pc + 1)) + 20 + 19)
  | j3 {e : EnvP} {k : Nat} {ks : List TkV} {sf : Nat → Int} {lf : Nat → Int} {jf : Nat → Int} {wf : Nat → Int} {pc : Nat} {m : Nat} {i : Nat} {id : Int} {lv : Int} {wa : Int} {walk : Int} {low : Int} {up : Int} {last : Ev} (C : CM p q d k k ks sf lf jf wf e) (s0 : sf 0 = 3) (hi : p[pc]? = some ⟨2, ((i : Nat) : Int), 0⟩) (ik : i < k) (hk : k ≤ pc) (sk : SK p m pc k) (r0 : e.rc 0 = ahB ((pc + 1 : Nat) : Int) 0 ((i : Int) + 1) k) (fo : FO p q d e.evs (mZ p q d k m ks [0] walk low up last)) : PA p q d ⟨[0], id, (i : Int) + 1, lv, wa, .j3⟩ e (60 * (p.length - (pc + 1)) + 20 + 18)
  | j4 {e : EnvP} {a : Nat} {k : Nat} {ks : List TkV} {sf : Nat → Int} {lf : Nat → Int} {jf : Nat → Int} {wf : Nat → Int} {i : Nat} {id : Int} {lv : Int} {wa : Int} {wk : Int} {ot : Int} {pc : Int} {last : Ev} {μ : Nat} (F : FA d a sf lf jf wf e) (c : e.c = ai3 p q (d : Int)) (kl : ks.length = k) (k6 : k ≤ 6) (s0 : sf 0 = 3) (l0 : lf 0 = 0) (li : 0 ≤ lf (i + 1) ∧ lf (i + 1) ≤ 1) (wi_ : wf (i + 1) = 0) (i6 : i < 6) (fo : FO p q d e.evs (mJ p q (d : Int) (t0J 3 wk ot pc (acy k)) ks (wJ [] 0 0 (-1) last))) : PA p q d ⟨[0], id, (i : Int) + 1, lv, wa, .j4⟩ e (μ + 3)
  | j5 {e : EnvP} {a : Nat} {k : Nat} {ks : List TkV} {sf : Nat → Int} {lf : Nat → Int} {jf : Nat → Int} {wf : Nat → Int} {i : Nat} {id : Int} {wa : Int} {wk : Int} {ot : Int} {pc : Int} {last : Ev} {μ : Nat} (F : FA d a sf lf jf wf e) (c : e.c = ai3 p q (d : Int)) (kl : ks.length = k) (k6 : k ≤ 6) (s0 : sf 0 = 3) (l0 : lf 0 = 0) (li : 0 ≤ lf (i + 1) ∧ lf (i + 1) ≤ 1) (wi_ : wf (i + 1) = 0) (i6 : i < 6) (fo : FO p q d e.evs (mJ p q (d : Int) (t0J 3 wk ot pc (acy k)) ks (wJ [] 0 0 (-1) last))) : PA p q d ⟨[0], id, (i : Int) + 1, 0, wa, .j5 (.l1 ((i : Int) + 1))⟩ e (μ + 2)
  | j5b {e : EnvP} {a : Nat} {k : Nat} {ks : List TkV} {sf : Nat → Int} {lf : Nat → Int} {jf : Nat → Int} {wf : Nat → Int} {i : Nat} {id : Int} {ch : Int} {wa : Int} {wk : Int} {ot : Int} {pc : Int} {last : Ev} {μ : Nat} (F : FA d a sf lf jf wf e) (c : e.c = ai3 p q (d : Int)) (kl : ks.length = k) (k6 : k ≤ 6) (s0 : sf 0 = 3) (wi_ : wf (i + 1) = 0) (i6 : i < 6) (fo : FO p q d e.evs (mJ p q (d : Int) (t0J 3 wk ot pc (acy k)) ks (wJ [] 0 0 (-1) last))) : PA p q d ⟨[0], id, ch, 0, wa, .j5 (.l4 ((i : Int) + 1))⟩ e (μ + 1)
  | j6 {e : EnvP} {k : Nat} {ks : List TkV} {sf : Nat → Int} {lf : Nat → Int} {jf : Nat → Int} {wf : Nat → Int} {pc : Nat} {m : Nat} {i : Nat} {id : Int} {lv : Int} {wa : Int} {walk : Int} {low : Int} {up : Int} {last : Ev} {u : TkV} (C : CM p q d k k ks sf lf jf wf e) (hi : p[pc]? = some ⟨2, ((i : Nat) : Int), 0⟩) (hu : ks[i]? = some u) (hph : u.view.phase = 4) (hk : k ≤ pc) (sk : SK p m pc k) (r0 : e.rc 0 = ahB ((pc + 1 : Nat) : Int) 0 ((i : Int) + 1) k) (fo : FO p q d e.evs (mZ p q d k m ks [0] walk low up last)) : PA p q d ⟨[0], id, (i : Int) + 1, lv, wa, .j6⟩ e (60 * (p.length - (pc + 1)) + 20 + 17)
  | j7 {e : EnvP} {k : Nat} {ks : List TkV} {sf : Nat → Int} {lf : Nat → Int} {jf : Nat → Int} {wf : Nat → Int} {pc : Nat} {m : Nat} {i : Nat} {id : Int} {lv : Int} {wa : Int} {walk : Int} {low : Int} {up : Int} {last : Ev} {u : TkV} (C : CM p q d k k ks sf lf jf wf e) (hi : p[pc]? = some ⟨2, ((i : Nat) : Int), 0⟩) (hu : ks[i]? = some u) (hph : u.view.phase = 4) (hk : k ≤ pc) (sk : SK p m pc k) (r0 : e.rc 0 = ahB ((pc + 1 : Nat) : Int) 0 ((i : Int) + 1) k) (fo : FO p q d e.evs (mZ p q d k m ks [0] walk low up last)) : PA p q d ⟨[0], id, (i : Int) + 1, lv, wa, .j7⟩ e (60 * (p.length - (pc + 1)) + 20 + 16)
  | f2 {e : EnvP} {k : Nat} {ks : List TkV} {sf : Nat → Int} {lf : Nat → Int} {jf : Nat → Int} {wf : Nat → Int} {m : Nat} {id : Int} {ch : Int} {lv : Int} {wa : Int} {walk : Int} {low : Int} {up : Int} {last : Ev} (C : CM p q d k k ks sf lf jf wf e) (s0 : sf 0 = 4) (hk : k ≤ p.length) (sk : SK p m p.length k) (fo : FO p q d e.evs (mZ p q d k m ks [0] walk low up last)) : PA p q d ⟨[0], id, ch, lv, wa, .f2⟩ e 5
def aAT (p q : List Ins) (d : Nat) (e : EnvP) : Prop := e.c = ai3 p q (d : Int) ∧ e.l = ajO d ∧ e.m.cells.length = 72 + 2 * d ∧ ∃ z ph wk ot pc kids ks w, (z = 3 ∨ z = 4) ∧ e.gt (TA d) = z ∧ ph = z ∧ ks.length ≤ 6 ∧ FO p q d e.evs (mJ p q (d : Int) (t0J ph wk ot pc kids) ks w)
def aoi (p q : List Ins) (d : Nat) (o : Rs RunS × EnvP) (μ : Nat) : Prop := (∃ r' e' μ', o = (.go r', e') ∧ μ' < μ ∧ PA p q d r' e' μ') ∨ ∃ e', o = (.fin 0 0, e') ∧ aAT p q d e'
section
variable {p q P : List Ins} {d : Nat} {e e' : EnvP} {t : Nat} {st : List Int} {id ch lv wa τ c v : Int} {x : RecP} {r : RunS}
theorem isA (hc : e.c = ai3 p q (d : Int)) (h : t < 12) : IsT e (t : Int) := ⟨by omega, by rw [hc]; show (t : Int) < 12; omega⟩
theorem apD (hc : e.c = ai3 p q (d : Int)) (h : t < 12) {k : RunC} (ht : aaJ st = (t : Int)) : amA 0 e ⟨st, id, ch, lv, wa, k⟩ = afq 0 e ⟨st, id, ch, lv, wa, k⟩ (t : Int) := by
  unfold amA
  show (if ¬ IsT e (aaJ st) then _ else afq 0 e _ (aaJ st)) = _
  rw [ht, if_neg (fun hh => hh (isA hc h))]
theorem azW (hc : e.c = ai3 p q (d : Int)) (hx : x.prog = 0) : e.prog x = p := by
  unfold EnvP.prog
  rw [hc, hx, if_neg (by show ¬ ((0 : Int) < 0 ∨ ((2 : Nat) : Int) ≤ 0); omega)]
  rfl
theorem azV (hc : e.c = ai3 p q (d : Int)) (hx : x.prog = 1) : e.prog x = q := by
  unfold EnvP.prog
  rw [hc, hx, if_neg (by show ¬ ((1 : Int) < 0 ∨ ((2 : Nat) : Int) ≤ 1); omega)]
  rfl
theorem auY {k : Nat} : acy (k + 1) = acy k ++ [(k : Int) + 1] := by
  unfold acy
  rw [List.range_succ, List.map_append]
  rfl
theorem ap4 {k : Nat} : (acy k).length = k := by unfold acy; simp
theorem avS {k i : Nat} (h : i < k) : aaf (acy k) (i : Int) = (i : Int) + 1 := by
  show (((acy k)[((i : Int)).toNat]?).getD _) = _
  rw [Int.toNat_natCast]
  unfold acy
  rw [List.getElem?_map, List.getElem?_range h]; rfl
theorem avL (h1 : x.waiting = -1) (h2 : (P.length : Int) ≤ x.pc) : aiR 0 e r τ x P = (.go { r with c := .f2 }, e.pt 2 (adn e.l τ) 4) := by
  unfold aiR; rw [if_neg (fun h => h h1), if_pos (.inr h2)]
theorem asV (h1 : x.waiting = -1) (h2 : 0 ≤ x.pc ∧ x.pc < (P.length : Int)) {i : Ins} (hi : abb P x.pc = i) (ho : i.op = 0) : aiR 0 e r τ x P = (.go r, e.pr τ (an0 x i)) := by
  unfold aiR; rw [if_neg (fun h => h h1), if_neg (by omega), hi, if_pos ho]
theorem auQ (h1 : x.waiting = -1) (h2 : 0 ≤ x.pc ∧ x.pc < (P.length : Int)) {i : Ins} (hi : abb P x.pc = i) (ho : i.op = 1) (hT : IsT e (wi (e.gt 0))) : aiR 0 e r τ x P = (.go { r with id := wi (e.gt 0), level := i.b, c := .s2 .l1 }, ((aiI e).pr τ { x with pc := wi (x.pc + 1), kids := x.kids ++ [wi (e.gt 0)] }).pr (wi (e.gt 0)) (asX i.a τ)) := by
  unfold aiR; rw [if_neg (fun h => h h1), if_neg (by omega), hi, if_neg (by omega), if_pos ho, if_pos hT]
theorem asU (h1 : x.waiting = -1) (h2 : 0 ≤ x.pc ∧ x.pc < (P.length : Int)) {i : Ins} (hi : abb P x.pc = i) (ho : i.op = 2) (ha : (x.kids.length : Int) ≤ i.a) : aiR 0 e r τ x P = (.go r, e.pr τ { x with pc := wi (x.pc + 1) }) := by
  unfold aiR; rw [if_neg (fun h => h h1), if_neg (by omega), hi, if_neg (by omega), if_neg (by omega), if_pos (.inr (.inl ha))]
theorem axf (h1 : x.waiting = -1) (h2 : 0 ≤ x.pc ∧ x.pc < (P.length : Int)) {i : Ins} (hi : abb P x.pc = i) (ho : i.op = 2) (ha : 0 ≤ i.a ∧ i.a < (x.kids.length : Int)) (hn : aaf x.kids i.a ≠ -1) : aiR 0 e r τ x P = (.go { r with child := aaf x.kids i.a, c := .j2 }, (e.pt 2 (agi e.l τ) (wu (wi (aaf x.kids i.a + 1)))).pr τ { x with pc := wi (x.pc + 1), waiting := aaf x.kids i.a }) := by
  unfold aiR; rw [if_neg (fun h => h h1), if_neg (by omega), hi, if_neg (by omega), if_neg (by omega), if_neg (by omega)]
theorem atA {i : Ins} (hl : x.left = 0 ∧ (1 ≤ i.a ∧ i.a ≤ 4) ∨ (1 ≤ x.left ∧ x.left ≤ 4)) (hp : 0 ≤ x.pc ∧ x.pc ≤ 1000) : ∃ v : Int, 1 ≤ v ∧ v ≤ 4 ∧ (x.left ≠ 0 → v = x.left) ∧ an0 x i = if v = 1 then { x with left := 0, pc := x.pc + 1 } else { x with left := v - 1 } := by
  refine ⟨if x.left = 0 then i.a else x.left, ?_, ?_, ?_, ?_⟩
  · split <;> omega
  · split <;> omega
  · intro h; rw [if_neg h]
  · unfold an0
    generalize hv : (if x.left = 0 then i.a else x.left) = v
    have hv4 : 1 ≤ v ∧ v ≤ 4 := by rw [← hv]; split <;> omega
    rw [acp (x := v - 1) (abc (by omega)), acp (x := x.pc + 1) (abc (by omega))]
    by_cases h : v = 1
    · subst h; rfl
    · rw [if_neg (by omega), if_neg h]
theorem aAM {s s' : PublishS} (h : aci id lv e s = (.go s', e')) : afq 0 e ⟨st, id, ch, lv, wa, .s2 s⟩ τ = (.go ⟨st, id, ch, lv, wa, .s2 s'⟩, e') := by
  unfold afq; simp only [h]
theorem aAZ {s : PublishS} (h : aci id lv e s = (.fin c v, e')) : afq 0 e ⟨st, id, ch, lv, wa, .s2 s⟩ τ = (.go ⟨st, id, ch, lv, wa, .s3 .new⟩, e'.em 3 0 id τ lv) := by
  unfold afq; simp only [h]
theorem aAY {s s' : LPushS} (h : acj 0 lv id e s = (.go s', e')) : afq 0 e ⟨st, id, ch, lv, wa, .s3 s⟩ τ = (.go ⟨st, id, ch, lv, wa, .s3 s'⟩, e') := by
  unfold afq; simp only [h]
theorem aAL {s : LPushS} (h : acj 0 lv id e s = (.fin c v, e')) : afq 0 e ⟨st, id, ch, lv, wa, .s3 s⟩ τ = (.go ⟨st, id, ch, lv, wa, if c = 3 then .s5 else .s4 (.l1 0)⟩, e') := by
  unfold afq; simp only [h]
theorem aAX {s : WakeS} (h : ai4 0 lv e s = (.fin c v, e')) : afq 0 e ⟨st, id, ch, lv, wa, .s4 s⟩ τ = (.go ⟨st, id, ch, lv, wa, .next⟩, e') := by
  unfold afq; simp only [h]
theorem aA0 {s s' : WalkS} (h : af0 0 lv e s = (.go s', e')) : afq 0 e ⟨st, id, ch, lv, wa, .j5 s⟩ τ = (.go ⟨st, id, ch, lv, wa, .j5 s'⟩, e') := by
  unfold afq; simp only [h]
theorem aA1 {s : WalkS} (h : af0 0 lv e s = (.fin c v, e')) : afq 0 e ⟨st, id, ch, lv, wa, .j5 s⟩ τ = ahX ⟨st, id, ch, lv, wa, .j5 s⟩ (e'.em 7 0 τ 0 lv) := by
  unfold afq; simp only [h]
theorem avO {y : Int} {k : RunC} : ahX ⟨[y], id, ch, lv, wa, k⟩ e = (.fin 0 0, e) := rfl
theorem ay7 {y z : Int} {k : RunC} : ahX ⟨[y, z], id, ch, lv, wa, k⟩ e = (.go ⟨[y], id, ch, lv, wa, .next⟩, e) := rfl
end
section
variable {p q : List Ins} {d a k : Nat} {ks : List TkV} {sf lf jf wf : Nat → Int} {e e' : EnvP} {t : Nat} {c x : Int}
theorem CM.to (C : CM p q d a k ks sf lf jf wf e) (F : FA d a sf lf jf wf e') (hc : e'.c = e.c) : CM p q d a k ks sf lf jf wf e' := ⟨F, hc.trans C.c, C.kl, C.kr, C.jz, C.j0, C.l0, C.lz, C.wz⟩
theorem CM.st (C : CM p q d a k ks sf lf jf wf e) (ht : t < 12) (hx : 0 ≤ x) : CM p q d a k ks (aok sf t x) lf jf wf (e.pt c (TA d + 5 * t) x) := ⟨C.f.pt_st ht hx, C.c, C.kl, C.kr, C.jz, C.j0, C.l0, C.lz, C.wz⟩
theorem CM.wt0 (C : CM p q d a k ks sf lf jf wf e) (hx : 0 ≤ x) : CM p q d a k ks sf lf jf (aok wf 0 x) (e.pt c (TA d + 5 * ((0 : Nat) : Int) + 3) x) := ⟨C.f.pt_wt (by decide) hx, C.c, C.kl, C.kr, C.jz, C.j0, C.l0, C.lz, fun t h1 h2 => by unfold aok; rw [if_neg (by omega)]; exact C.wz t h1 h2⟩
theorem CM.lv (C : CM p q d a k ks sf lf jf wf e) (ht : 0 < t ∧ t < 12) (hx : 0 ≤ x ∧ x ≤ 1) : CM p q d a k ks sf (aok lf t x) jf wf (e.pt c (TA d + 5 * t + 1) x) := by
  refine ⟨C.f.pt_lv ht.2 hx.1, C.c, C.kl, C.kr, C.jz, C.j0, ?_, fun u hu => ?_, C.wz⟩
  · unfold aok; rw [if_neg (by omega)]; exact C.l0
  · unfold aok
    by_cases h : u = t
    · rw [if_pos h]; exact hx
    · rw [if_neg h]; exact C.lz u hu
theorem CM.nx (C : CM p q d k k ks sf lf jf wf e) : CM p q d (k + 1) k ks sf lf jf wf (e.pt c 0 ((k : Int) + 2)) := ⟨C.f.pt_nx, C.c, C.kl, C.kr, C.jz, C.j0, C.l0, C.lz, C.wz⟩
theorem CM.kid (C : CM p q d (k + 1) k ks sf lf jf wf e) {b : Int} (h : k < 11) : CM p q d (k + 1) (k + 1) (ks ++ [kdJ b 1 (-1) 0]) sf lf jf wf e := by
  refine ⟨C.f, C.c, by rw [List.length_append, C.kl]; rfl, fun i u hu => ?_, fun t h1 h2 => C.jz t (by omega) h2, C.j0, C.l0, C.lz, C.wz⟩
  by_cases hi : i < k
  · rw [List.getElem?_append_left (by rw [C.kl]; exact hi)] at hu
    exact C.kr i u hu
  · rw [List.getElem?_append_right (by rw [C.kl]; omega), C.kl] at hu
    have hl := (List.getElem?_eq_some_iff.1 hu).1
    have hl : i - k < 1 := hl
    obtain rfl : i = k := by omega
    rw [Nat.sub_self] at hu
    obtain rfl : kdJ b 1 (-1) 0 = u := Option.some.inj hu
    exact .inl ⟨rfl, C.jz _ (by omega) (by omega)⟩
theorem CM.done {b : Int} (C : CM p q d (k + 1) (k + 1) (ks ++ [kdJ b 1 (-1) 0]) sf lf jf wf e) {sf' jf' : Nat → Int} (F : FA d (k + 1) sf' lf jf' wf e') (hc : e'.c = ai3 p q (d : Int)) (h1 : ∀ t, t ≠ k + 1 → jf' t = jf t) (h2 : jf' (k + 1) = 4294967296) (z : Int) : CM p q d (k + 1) (k + 1) (ks ++ [kdJ b 4 (-1) z]) sf' lf jf' wf e' := by
  have hl : ks.length = k := by have := C.kl; rw [List.length_append] at this; exact Nat.add_right_cancel this
  refine ⟨F, hc, by rw [List.length_append, hl]; rfl, fun i u hu => ?_, fun t h3 h4 => by rw [h1 t (by omega)]; exact C.jz t h3 h4, by rw [h1 0 (by omega)]; exact C.j0, C.l0, C.lz, C.wz⟩
  by_cases hi : i < k
  · rw [List.getElem?_append_left (by rw [hl]; exact hi)] at hu
    have := C.kr i u (by rw [List.getElem?_append_left (by rw [hl]; exact hi)]; exact hu)
    rwa [h1 (i + 1) (by omega)]
  · rw [List.getElem?_append_right (by rw [hl]; omega), hl] at hu
    have hl := (List.getElem?_eq_some_iff.1 hu).1
    have hl : i - k < 1 := hl
    obtain rfl : i = k := by omega
    rw [Nat.sub_self] at hu
    obtain rfl : kdJ b 4 (-1) z = u := Option.some.inj hu
    exact .inr ⟨rfl, h2⟩
theorem SK.ext {m pc : Nat} (sk : SK p m pc k) (h : amE p (acy k) pc) : SK p m (pc + 1) k := ⟨Nat.le_succ_of_le sk.1, fun j h1 h2 => by
  by_cases h3 : j = pc
  · rw [h3]; exact h
  · exact sk.2 j h1 (by omega)⟩
theorem SK.nil {pc : Nat} : SK p pc pc k := ⟨Nat.le_refl _, fun j h1 h2 => absurd h2 (by omega)⟩
end
section
variable {p q : List Ins} {d k : Nat} {ks : List TkV} {sf lf jf wf : Nat → Int} {e : EnvP} {pc m : Nat} {left id ch lv wa walk low up : Int} {last : Ev}
theorem ar2 (hp : apo p) (C : CM p q d k k ks sf lf jf wf e) (h : PL p pc left) (hk : k ≤ pc) (sk : SK p m pc k) (r0 : e.rc 0 = ahB pc left (-1) k) (fo : FO p q d e.evs (mZ p q d k m ks [0] walk low up last)) : aoi p q d (amA 0 e ⟨[0], id, ch, lv, wa, .next⟩) (muN p pc left) := by
  have h6 : pc ≤ 6 := Nat.le_trans h.le hp.1
  rw [apD C.c (t := 0) (by decide) rfl]
  have eP : e.prog (ahB (pc : Int) left (-1) k) = p := azW C.c rfl
  show aoi p q d (aiR 0 e _ ((0 : Nat) : Int) (e.rc ((0 : Nat) : Int)) (e.prog (e.rc ((0 : Nat) : Int)))) _
  have r0' : e.rc ((0 : Nat) : Int) = ahB (pc : Int) left (-1) k := r0
  rw [r0', eP]
  obtain ⟨a1, a2, a3, a4, a5⟩ := agF C.f.hd (t := 0) (by decide)
  have wip : wi ((pc : Int) + 1) = ((pc + 1 : Nat) : Int) := acp (abc (by omega))
  by_cases hl : pc < p.length
  · obtain ⟨⟨io, ia, ib⟩, hi⟩ : ∃ i, p[pc]? = some i := ⟨p[pc], List.getElem?_eq_getElem hl⟩
    have hv := hp.2 _ (List.mem_of_getElem? hi)
    have h2 : 0 ≤ (pc : Int) ∧ (pc : Int) < (p.length : Int) := by omega
    have hat := aln hi
    have l0 : io ≠ 0 → left = 0 := fun hne => h.lf.elim (fun h => h) fun ⟨_, i, hi', ho⟩ => by
      rw [hi] at hi'
      obtain rfl : (⟨io, ia, ib⟩ : Ins) = i := Option.some.inj hi'
      exact absurd ho hne
    rcases hv with ⟨o, va, vb⟩ | ⟨o, va, vb⟩ | ⟨o, va, vb⟩
    · obtain rfl : io = 0 := o
      have va : 1 ≤ ia ∧ ia ≤ 4 := va
      obtain ⟨v, v1, v4, v0, hco⟩ := atA (x := ahB (pc : Int) left (-1) k) (i := ⟨0, ia, ib⟩) (h.lf.elim (fun h => .inl ⟨h, va⟩) fun h => .inr h.1) (by show 0 ≤ (pc : Int) ∧ (pc : Int) ≤ 1000; omega)
      have v0 : left ≠ 0 → v = left := v0
      have e1 := asV (e := e) (r := ⟨[0], id, ch, lv, wa, .next⟩) (τ := ((0 : Nat) : Int)) (x := ahB (pc : Int) left (-1) k) rfl h2 hat rfl
      rw [hco] at e1
      by_cases hv1 : v = 1
      · rw [if_pos hv1] at e1
        refine .inl ⟨_, _, _, e1, ?_, PA.next (left := 0) (pc := pc + 1) (C.to C.f.pr rfl) ⟨hl, .inl rfl⟩ (by omega) (sk.ext ⟨_, hi, by show (0 : Int) ≠ 1; decide, fun h => by cases h⟩) ((arT C.f.rl (y := 0) (by decide) 0).trans (if_pos rfl)) fo⟩
        unfold muN; rw [if_pos rfl]; split <;> omega
      · rw [if_neg hv1] at e1
        refine .inl ⟨_, _, _, e1, ?_, PA.next (left := v - 1) (C.to C.f.pr rfl) ⟨h.le, .inr ⟨by omega, _, hi, rfl⟩⟩ hk sk ((arT C.f.rl (y := 0) (by decide) 0).trans (if_pos rfl)) fo⟩
        unfold muN
        rw [if_neg (show ¬ v - 1 = 0 by omega)]
        by_cases hz : left = 0
        · rw [if_pos hz]; omega
        · rw [if_neg hz]; have := v0 hz; omega
    · obtain rfl : io = 1 := o
      obtain rfl : ia = 1 := va
      obtain rfl : left = 0 := l0 (by decide)
      obtain ⟨b, rfl, hb⟩ : ∃ b : Nat, ib = (b : Int) ∧ b < 2 := by
        rcases vb with vb | vb
        · exact ⟨0, vb, by decide⟩
        · exact ⟨1, vb, by decide⟩
      have wg : wi (e.gt 0) = ((k + 1 : Nat) : Int) := by rw [C.f.nx]; exact acp (abc (by omega))
      have wu2 : wu (e.gt 0 + 1) = (k : Int) + 2 := by rw [C.f.nx, wuN (by omega)]; omega
      have e1 := auQ (e := e) (r := ⟨[0], id, ch, lv, wa, .next⟩) (τ := ((0 : Nat) : Int)) (x := ahB (pc : Int) 0 (-1) k) rfl h2 hat rfl (by rw [wg]; exact isA C.c (by omega))
      have ea : aiI e = e.pt 6 0 ((k : Int) + 2) := by unfold aiI; rw [wu2]
      rw [wg, ea] at e1
      have F1 := (C.nx (c := 6)).f.pr (y := ((0 : Nat) : Int)) (z := { ahB (pc : Int) 0 (-1) k with pc := wi ((pc : Int) + 1), kids := acy k ++ [((k + 1 : Nat) : Int)] })
      have F2 := F1.pr (y := ((k + 1 : Nat) : Int)) (z := asX 1 ((0 : Nat) : Int))
      refine .inl ⟨_, _, _, e1, ?_, PA.s2 (b := b) (m := m) hb ((C.nx (c := 6)).to F2 rfl) hi hk sk ?_ ((arT F1.rl (y := k + 1) (by omega) (k + 1)).trans (if_pos rfl)) fo⟩
      · show 60 * (p.length - (pc + 1)) + 20 + 38 < _
        unfold muN; rw [if_pos rfl]; omega
      · refine (arT F1.rl (y := k + 1) (by omega) 0).trans ((if_neg (by omega)).trans ((arT (C.nx (c := 6)).f.rl (y := 0) (by decide) 0).trans ((if_pos rfl).trans ?_)))
        show (⟨0, -1, wi ((pc : Int) + 1), 0, -1, acy k ++ [((k + 1 : Nat) : Int)], true⟩ : RecP) = _
        rw [wip]
        unfold ahB
        rw [auY]; rfl
    · obtain rfl : io = 2 := o
      have va : 0 ≤ ia ∧ ia ≤ 2 := va
      obtain rfl : ib = 0 := vb
      obtain rfl : left = 0 := l0 (by decide)
      by_cases hs : (k : Int) ≤ ia
      · have e1 := asU (e := e) (r := ⟨[0], id, ch, lv, wa, .next⟩) (τ := ((0 : Nat) : Int)) (x := ahB (pc : Int) 0 (-1) k) rfl h2 hat rfl (by show ((acy k).length : Int) ≤ ia; rw [ap4]; exact hs)
        refine .inl ⟨_, _, _, e1, ?_, PA.next (left := 0) (pc := pc + 1) (C.to C.f.pr rfl) ⟨hl, .inl rfl⟩ (by omega) (sk.ext ⟨_, hi, by show (2 : Int) ≠ 1; decide, fun _ => ⟨va.1, .inl (by show ((acy k).length : Int) ≤ ia; rw [ap4]; exact hs)⟩⟩) ((arT C.f.rl (y := 0) (by decide) 0).trans ((if_pos rfl).trans ?_)) fo⟩
        · unfold muN; rw [if_pos rfl]; omega
        · show (⟨0, -1, wi ((pc : Int) + 1), 0, -1, acy k, true⟩ : RecP) = _
          rw [wip]; rfl
      · obtain ⟨i, rfl⟩ : ∃ i : Nat, ia = (i : Int) := ⟨ia.toNat, by omega⟩
        have hik : i < k := by omega
        have e1 := axf (e := e) (r := ⟨[0], id, ch, lv, wa, .next⟩) (τ := ((0 : Nat) : Int)) (x := ahB (pc : Int) 0 (-1) k) rfl h2 hat rfl (by show 0 ≤ (i : Int) ∧ (i : Int) < ((acy k).length : Int); rw [ap4]; omega) (by show aaf (acy k) (i : Int) ≠ -1; rw [avS hik]; omega)
        have ek : aaf (ahB (pc : Int) 0 (-1) k).kids (i : Int) = (i : Int) + 1 := avS hik
        have ek2 : wu (wi ((i : Int) + 1 + 1)) = (i : Int) + 2 := by rw [acp (abc (by omega)), wuN (by omega)]; omega
        simp only [] at e1
        rw [ek, ek2, C.f.l, a4] at e1
        have C1 := C.wt0 (c := 2) (x := (i : Int) + 2) (by omega)
        refine .inl ⟨_, _, _, e1, ?_, PA.j2 (C1.to C1.f.pr rfl) hi hik hk sk ((arT C1.f.rl (y := 0) (by decide) 0).trans ((if_pos rfl).trans ?_)) fo⟩
        · unfold muN; rw [if_pos rfl]; omega
        · show (⟨0, -1, wi ((pc : Int) + 1), 0, (i : Int) + 1, acy k, true⟩ : RecP) = _
          rw [wip]; rfl
  · have hpe : pc = p.length := by have := h.le; omega
    subst hpe
    have l0 : left = 0 := h.lf.elim (fun h => h) fun ⟨_, i, hi', ho⟩ => absurd (List.getElem?_eq_some_iff.1 hi').1 hl
    subst l0
    have e1 := avL (e := e) (r := ⟨[0], id, ch, lv, wa, .next⟩) (τ := ((0 : Nat) : Int)) (x := ahB ((p.length : Nat) : Int) 0 (-1) k) (P := p) rfl (Int.le_refl _)
    rw [C.f.l, a1] at e1
    refine .inl ⟨_, _, _, e1, ?_, PA.f2 (C.st (t := 0) (by decide) (by decide)) (if_pos rfl) hk sk fo⟩
    unfold muN; rw [if_pos rfl]; omega
end
section
variable {p q : List Ins} {d k : Nat} {ks : List TkV} {sf lf jf wf : Nat → Int} {e : EnvP} {pc m : Nat} {left id ch lv wa walk low up w0 o0 l0 : Int} {last : Ev} {b : Nat}
theorem awd (hp : apo p) {s : PublishS} (hb : b < 2) (C : CM p q d (k + 1) k ks sf lf jf wf e) (hi : p[pc]? = some ⟨1, 1, (b : Int)⟩) (hk : k ≤ pc) (sk : SK p m pc k) (r0 : e.rc 0 = ahB ((pc + 1 : Nat) : Int) 0 (-1) (k + 1)) (r1 : e.rc ((k + 1 : Nat) : Int) = asX 1 0) (fo : FO p q d e.evs (mZ p q d k m ks [0] walk low up last)) : aoi p q d (amA 0 e ⟨[0], ((k + 1 : Nat) : Int), ch, (b : Int), wa, .s2 s⟩) (60 * (p.length - (pc + 1)) + 20 + muS s) := by
  have hl : pc < p.length := (List.getElem?_eq_some_iff.1 hi).1
  have h6 := hp.1
  rw [apD C.c (t := 0) (by decide) rfl]
  obtain ⟨a1, a2, a3, a4, a5⟩ := agF C.f.hd (t := k + 1) (by omega)
  have hT : ¬ ¬ IsT e ((k + 1 : Nat) : Int) := fun h => h (isA C.c (by omega))
  cases s with
  | l1 =>
    have e1 : aci ((k + 1 : Nat) : Int) (b : Int) e .l1 = (.go .l2, e.pt 2 (TA d + 5 * ((k + 1 : Nat) : Int) + 1) (b : Int)) := by
      unfold aci; rw [if_neg hT, C.f.l, a2, wuN (by omega)]
    exact .inl ⟨_, _, _, aAM e1, by show 60 * (p.length - (pc + 1)) + 20 + 37 < 60 * (p.length - (pc + 1)) + 20 + 38; omega, PA.s2 hb (C.lv (t := k + 1) (by omega) (by omega)) hi hk sk r0 r1 fo⟩
  | l2 =>
    have e1 : aci ((k + 1 : Nat) : Int) (b : Int) e .l2 = (.go .l3, e.pt 2 (TA d + 5 * ((k + 1 : Nat) : Int) + 4) (wu e.k.now)) := by
      unfold aci; rw [if_neg hT, C.f.l, a5]
    exact .inl ⟨_, _, _, aAM e1, by show 60 * (p.length - (pc + 1)) + 20 + 36 < 60 * (p.length - (pc + 1)) + 20 + 37; omega, PA.s2 hb (C.to (C.f.pt (.inr ⟨k + 1, by omega, rfl⟩) (wuP _)) rfl) hi hk sk r0 r1 fo⟩
  | l3 =>
    have e1 : aci ((k + 1 : Nat) : Int) (b : Int) e .l3 = (.fin 0 0, e.pt 2 (TA d + 5 * ((k + 1 : Nat) : Int)) 1) := by
      unfold aci; rw [if_neg hT, C.f.l, a1]
    have C1 := (C.st (c := 2) (t := k + 1) (x := 1) (by omega) (by omega)).kid (b := (b : Int)) (by omega)
    have hd := avc (q := q) (d := (d : Int)) (b := (b : Int)) (walk := walk) (low := low) (up := up) (last := last) C.kl (by omega) (by omega) (by omega) sk.1 sk.2 hi
    have wip : wi ((pc : Int) + 1) = ((pc + 1 : Nat) : Int) := acp (abc (by omega))
    rw [wip] at hd
    refine .inl ⟨_, _, _, aAZ e1, by show 60 * (p.length - (pc + 1)) + 20 + 29 + 5 < 60 * (p.length - (pc + 1)) + 20 + 36; omega, PA.s3 (pc := pc + 1) (s := .new) hb trivial (C1.to C1.f.em rfl) hl (by omega) r0 r1 (if_pos rfl) (fo.snoc hd)⟩
theorem awc (hp : apo p) {s : LPushS} (hb : b < 2) (hs : aqS s) (C : CM p q d (k + 1) (k + 1) (ks ++ [kdJ (b : Int) 1 (-1) 0]) sf lf jf wf e) (hpc : pc ≤ p.length) (hk : k + 1 ≤ pc) (r0 : e.rc 0 = ahB (pc : Int) 0 (-1) (k + 1)) (r1 : e.rc ((k + 1 : Nat) : Int) = asX 1 0) (st : sf (k + 1) = 1) (fo : FO p q d e.evs (mZ p q d (k + 1) pc (ks ++ [kdJ (b : Int) 1 (-1) 0]) [0] walk low up ⟨3, w0, (k : Int) + 1, o0, l0⟩)) : aoi p q d (amA 0 e ⟨[0], ((k + 1 : Nat) : Int), ch, (b : Int), wa, .s3 s⟩) (60 * (p.length - pc) + 20 + 29 + aoE s) := by
  rw [apD C.c (t := 0) (by decide) rfl]
  obtain ⟨e', F', ⟨sc, sr, se⟩, h⟩ := asp C.f hb (y := ((k + 1 : Nat) : Int)) hs
  have rr : ∀ x, e'.rc x = e.rc x := fun x => by unfold EnvP.rc; rw [sr]
  have fo' : FO p q d e'.evs (mZ p q d (k + 1) pc (ks ++ [kdJ (b : Int) 1 (-1) 0]) [0] walk low up ⟨3, w0, (k : Int) + 1, o0, l0⟩) := by rw [se]; exact fo
  rcases h with ⟨s', h, h1, h2⟩ | ⟨z, h⟩ | ⟨z, h⟩
  · exact .inl ⟨_, _, _, aAY h, by omega, PA.s3 hb h1 (C.to F' sc) hpc hk ((rr _).trans r0) ((rr _).trans r1) st fo'⟩
  · refine .inl ⟨_, _, _, (aAL h).trans (by rw [if_neg (by decide)]), ?_, PA.s4 hb (C.to F' sc) hpc hk ((rr _).trans r0) fo'⟩
    have : 1 ≤ aoE s := by unfold aoE; split <;> decide
    omega
  · refine .inl ⟨_, _, _, (aAL h).trans (by rw [if_pos rfl]), ?_, PA.s5 hb (C.to F' sc) hpc hk ((rr _).trans r0) ((rr _).trans r1) st fo'⟩
    have : 1 ≤ aoE s := by unfold aoE; split <;> decide
    omega
theorem ayb (hd : d = 1 ∨ d = 2 ∨ d = 3) (hb : b < 2) : (if (1 : Int) < 1 then -1 else alw (ajO d) (azy (wi (arm (b : Int) 2 1 + 0)) 1)) = 5 := by
  rcases hd with rfl | rfl | rfl <;> rcases b with _ | _ | b
  all_goals first | exact absurd hb (by omega) | (show _ = _; kernel_rfl)
theorem awb (hb : b < 2) (C : CM p q d k k ks sf lf jf wf e) (hpc : pc ≤ p.length) (hk : k ≤ pc) (r0 : e.rc 0 = ahB (pc : Int) 0 (-1) k) (fo : FO p q d e.evs (mZ p q d k pc ks [0] walk low up last)) : aoi p q d (amA 0 e ⟨[0], id, ch, (b : Int), wa, .s4 (.l1 0)⟩) (60 * (p.length - pc) + 20 + 1) := by
  rw [apD C.c (t := 0) (by decide) rfl]
  have hw : amC (b : Int) 0 e = 5 := by
    unfold amC
    rw [C.c, C.f.l]
    exact ayb C.f.hd hb
  have e1 : ai4 0 (b : Int) e (.l1 0) = (.fin 2 0, e.lk 5) := by
    unfold ai4
    simp only [hw]
    rw [C.f.sl, if_neg (fun h => h rfl), if_pos (by rw [C.c]; show (1 : Int) ≤ wi (0 + 1); decide +kernel)]
  refine .inl ⟨_, _, _, aAX e1, ?_, PA.next (left := 0) (C.to (C.f.lk (by omega)) rfl) ⟨hpc, .inl rfl⟩ hk .nil r0 fo⟩
  unfold muN; rw [if_pos rfl]; omega
theorem awa (hp : apo p) (hq : av1 q) (hb : b < 2) (C : CM p q d (k + 1) (k + 1) (ks ++ [kdJ (b : Int) 1 (-1) 0]) sf lf jf wf e) (hpc : pc ≤ p.length) (hk : k + 1 ≤ pc) (r0 : e.rc 0 = ahB (pc : Int) 0 (-1) (k + 1)) (r1 : e.rc ((k + 1 : Nat) : Int) = asX 1 0) (st : sf (k + 1) = 1) (fo : FO p q d e.evs (mZ p q d (k + 1) pc (ks ++ [kdJ (b : Int) 1 (-1) 0]) [0] walk low up ⟨3, w0, (k : Int) + 1, o0, l0⟩)) : aoi p q d (amA 0 e ⟨[0], ((k + 1 : Nat) : Int), ch, lv, wa, .s5⟩) (60 * (p.length - pc) + 20 + 29) := by
  have h6 := hp.1
  have hT : TA d = 12 + 2 * (d : Int) := rfl
  rw [apD C.c (t := 0) (by decide) rfl]
  obtain ⟨a1, a2, a3, a4, a5⟩ := agF C.f.hd (t := k + 1) (by omega)
  have hg : e.gt (TA d + 5 * ((k + 1 : Nat) : Int)) = 1 := (C.f.st (k + 1) (by omega)).trans st
  have hcl : aiH ((k + 1 : Nat) : Int) e = true := by
    unfold aiH
    rw [C.f.l, a1]
    exact (azz (C.f.in (by omega))).2 hg
  have e1 : afq 0 e ⟨[0], ((k + 1 : Nat) : Int), ch, lv, wa, .s5⟩ ((0 : Nat) : Int) = (.go ⟨[0, ((k + 1 : Nat) : Int)], ((k + 1 : Nat) : Int), ch, lv, wa, .next⟩, ((e.pt 3 (TA d + 5 * ((k + 1 : Nat) : Int)) 2).pr ((k + 1 : Nat) : Int) (avF 0 0)).em 5 0 ((k + 1 : Nat) : Int) 0 0) := by
    unfold afq
    simp only [hcl, if_true]
    unfold akK
    rw [if_pos hcl, r1, if_neg (show ¬ (asX 1 0).started = true by decide), C.f.l, a1, azm, hg, if_pos rfl]
    rfl
  have hl : ks.length = k := by have := C.kl; rw [List.length_append] at this; exact Nat.add_right_cancel this
  have jk : jf (k + 1) = 0 := by
    have hu : (ks ++ [kdJ (b : Int) 1 (-1) 0])[k]? = some (kdJ (b : Int) 1 (-1) 0) := by
      rw [List.getElem?_append_right (by omega), hl, Nat.sub_self]; rfl
    rcases C.kr k _ hu with ⟨_, h⟩ | ⟨h, _⟩
    · exact h
    · exact absurd h (by show ¬ (1 : Int) = 4; decide)
  have C1 := C.st (c := 3) (t := k + 1) (x := 2) (by omega) (by omega)
  have hd := avb (p := p) (q := q) (d := (d : Int)) (t0 := t0J 2 0 (-1) ((pc : Nat) : Int) (acy (k + 1))) (ks := ks) (b := (b : Int)) (walk := walk) (low := low) (up := up) (w0 := w0) (o0 := o0) (l0 := l0) hl (by omega)
  refine .inl ⟨_, _, _, e1, ?_, PA.kid (pk := 0) (left := 0) (b := (b : Int)) C1.f.pr.em (fun e' sf' jf' F' hc' h1 h2 z => C.done F' hc' h1 h2 z) C.c (by omega) hl jk hpc hk ?_ ⟨Nat.zero_le _, .inl rfl⟩ ((arT C1.f.rl (y := k + 1) (by omega) (k + 1)).trans (if_pos rfl)) (fo.snoc hd)⟩
  · have := hq.1
    unfold muK; rw [if_pos rfl]; omega
  · exact (arT C1.f.rl (y := k + 1) (by omega) 0).trans ((if_neg (by omega)).trans r0)
theorem auj (hp : apo p) (hq : av1 q) {b : Int} {pk : Nat} (F : FA d (k + 1) sf lf jf wf e) (C : ∀ e' sf' jf', FA d (k + 1) sf' lf jf' wf e' → e'.c = ai3 p q (d : Int) → (∀ t, t ≠ k + 1 → jf' t = jf t) → jf' (k + 1) = 4294967296 → ∀ z, CM p q d (k + 1) (k + 1) (ks ++ [kdJ b 4 (-1) z]) sf' lf jf' wf e') (c : e.c = ai3 p q (d : Int)) (k5 : k ≤ 5) (kl : ks.length = k) (jk : jf (k + 1) = 0) (hpc : pc ≤ p.length) (hk : k + 1 ≤ pc) (r0 : e.rc 0 = ahB (pc : Int) 0 (-1) (k + 1)) (h : PL q pk left) (r1 : e.rc ((k + 1 : Nat) : Int) = avF pk left) (fo : FO p q d e.evs (mZ p q d (k + 1) pc (ks ++ [kdJ b 2 0 0]) [0, (k : Int) + 1] walk low up last)) : aoi p q d (amA 0 e ⟨[0, ((k + 1 : Nat) : Int)], id, ch, lv, wa, .next⟩) (60 * (p.length - pc) + 20 + 2 + muK q pk left) := by
  have h6 : pk ≤ 6 := Nat.le_trans h.le hq.1
  rw [apD c (t := k + 1) (by omega) rfl]
  have eP : e.prog (avF (pk : Int) left) = q := azV c rfl
  show aoi p q d (aiR 0 e _ ((k + 1 : Nat) : Int) (e.rc ((k + 1 : Nat) : Int)) (e.prog (e.rc ((k + 1 : Nat) : Int)))) _
  rw [r1, eP]
  obtain ⟨a1, a2, a3, a4, a5⟩ := agF F.hd (t := k + 1) (by omega)
  have wip : wi ((pk : Int) + 1) = ((pk + 1 : Nat) : Int) := acp (abc (by omega))
  have rz : ∀ z, (e.pr ((k + 1 : Nat) : Int) z).rc 0 = ahB (pc : Int) 0 (-1) (k + 1) := fun z => (arT F.rl (y := k + 1) (by omega) 0).trans ((if_neg (by omega)).trans r0)
  have rk : ∀ z, (e.pr ((k + 1 : Nat) : Int) z).rc ((k + 1 : Nat) : Int) = z := fun z => (arT F.rl (y := k + 1) (by omega) (k + 1)).trans (if_pos rfl)
  by_cases hl : pk < q.length
  · obtain ⟨⟨io, ia, ib⟩, hi⟩ : ∃ i, q[pk]? = some i := ⟨q[pk], List.getElem?_eq_getElem hl⟩
    have hv := hq.2 _ (List.mem_of_getElem? hi)
    have h2 : 0 ≤ (pk : Int) ∧ (pk : Int) < (q.length : Int) := by omega
    have hat := aln hi
    rcases hv with ⟨o, va, vb⟩ | ⟨o, va, vb⟩
    · obtain rfl : io = 0 := o
      have va : 1 ≤ ia ∧ ia ≤ 4 := va
      obtain ⟨v, v1, v4, v0, hco⟩ := atA (x := avF (pk : Int) left) (i := ⟨0, ia, ib⟩) (h.lf.elim (fun h => .inl ⟨h, va⟩) fun h => .inr h.1) (by show 0 ≤ (pk : Int) ∧ (pk : Int) ≤ 1000; omega)
      have v0 : left ≠ 0 → v = left := v0
      have e1 := asV (e := e) (r := ⟨[0, ((k + 1 : Nat) : Int)], id, ch, lv, wa, .next⟩) (τ := ((k + 1 : Nat) : Int)) (x := avF (pk : Int) left) rfl h2 hat rfl
      rw [hco] at e1
      have hz : left = 0 ∨ 1 ≤ left := h.lf.elim .inl fun h => .inr h.1.1
      by_cases hv1 : v = 1
      · rw [if_pos hv1] at e1
        refine .inl ⟨_, _, _, e1, ?_, PA.kid (left := 0) (pk := pk + 1) F.pr C c k5 kl jk hpc hk (rz _) ⟨hl, .inl rfl⟩ (rk _) fo⟩
        unfold muK
        rw [if_pos (show (0 : Int) = 0 from rfl)]
        by_cases hz : left = 0
        · rw [if_pos hz]; omega
        · rw [if_neg hz]; have := v0 hz; omega
      · rw [if_neg hv1] at e1
        refine .inl ⟨_, _, _, e1, ?_, PA.kid (left := v - 1) (pk := pk) F.pr C c k5 kl jk hpc hk (rz _) ⟨h.le, .inr ⟨by omega, _, hi, rfl⟩⟩ (rk _) fo⟩
        unfold muK
        rw [if_neg (show ¬ v - 1 = 0 by omega)]
        by_cases hz : left = 0
        · rw [if_pos hz]; omega
        · rw [if_neg hz]; have := v0 hz; omega
    · obtain rfl : io = 2 := o
      have va : 0 ≤ ia ∧ ia ≤ 2 := va
      obtain rfl : left = 0 := h.lf.elim (fun h => h) fun ⟨_, i, hi', ho⟩ => by
        rw [hi] at hi'
        obtain rfl : (⟨2, ia, ib⟩ : Ins) = i := Option.some.inj hi'
        exact absurd ho (by show ¬ (2 : Int) = 0; decide)
      have e1 := asU (e := e) (r := ⟨[0, ((k + 1 : Nat) : Int)], id, ch, lv, wa, .next⟩) (τ := ((k + 1 : Nat) : Int)) (x := avF (pk : Int) 0) rfl h2 hat rfl va.1
      refine .inl ⟨_, _, _, e1, ?_, PA.kid (left := 0) (pk := pk + 1) F.pr C c k5 kl jk hpc hk (rz _) ⟨hl, .inl rfl⟩ ((rk _).trans ?_) fo⟩
      · unfold muK; rw [if_pos rfl, if_pos rfl]; omega
      · show (⟨1, 0, wi ((pk : Int) + 1), 0, -1, [], true⟩ : RecP) = _
        rw [wip]; rfl
  · have hpe : pk = q.length := by have := h.le; omega
    subst hpe
    have e1 := avL (e := e) (r := ⟨[0, ((k + 1 : Nat) : Int)], id, ch, lv, wa, .next⟩) (τ := ((k + 1 : Nat) : Int)) (x := avF ((q.length : Nat) : Int) left) (P := q) rfl (Int.le_refl _)
    rw [F.l, a1] at e1
    exact .inl ⟨_, _, _, e1, by omega, PA.kidf (F.pt_st (t := k + 1) (by omega) (by decide)) C c k5 kl jk hpc hk r0 fo⟩
theorem ayg (hq : av1 q) : ∀ j, 0 ≤ j → j < q.length → amE q [] j := fun j _ h => by
  refine ⟨q[j], List.getElem?_eq_getElem h, ?_, fun h2 => ?_⟩
  · rcases hq.2 _ (List.getElem_mem h) with ⟨o, _⟩ | ⟨o, _⟩ <;> omega
  · rcases hq.2 _ (List.getElem_mem h) with ⟨o, _⟩ | ⟨o, va, _⟩
    · omega
    · exact ⟨va.1, .inl (by show (0 : Int) ≤ _; omega)⟩
theorem ar3 (hp : apo p) (hq : av1 q) {b : Int} (F : FA d (k + 1) sf lf jf wf e) (C : ∀ e' sf' jf', FA d (k + 1) sf' lf jf' wf e' → e'.c = ai3 p q (d : Int) → (∀ t, t ≠ k + 1 → jf' t = jf t) → jf' (k + 1) = 4294967296 → ∀ z, CM p q d (k + 1) (k + 1) (ks ++ [kdJ b 4 (-1) z]) sf' lf jf' wf e') (c : e.c = ai3 p q (d : Int)) (k5 : k ≤ 5) (kl : ks.length = k) (jk : jf (k + 1) = 0) (hpc : pc ≤ p.length) (hk : k + 1 ≤ pc) (r0 : e.rc 0 = ahB (pc : Int) 0 (-1) (k + 1)) (fo : FO p q d e.evs (mZ p q d (k + 1) pc (ks ++ [kdJ b 2 0 0]) [0, (k : Int) + 1] walk low up last)) : aoi p q d (amA 0 e ⟨[0, ((k + 1 : Nat) : Int)], id, ch, lv, wa, .f2⟩) (60 * (p.length - pc) + 20 + 1) := by
  have hT : TA d = 12 + 2 * (d : Int) := rfl
  rw [apD c (t := k + 1) (by omega) rfl]
  obtain ⟨a1, a2, a3, a4, a5⟩ := agF F.hd (t := k + 1) (by omega)
  have hg : e.gt (TA d + 5 * ((k + 1 : Nat) : Int) + 2) = 0 := (F.jn (k + 1) (by omega)).trans jk
  have e1 : afq 0 e ⟨[0, ((k + 1 : Nat) : Int)], id, ch, lv, wa, .f2⟩ ((k + 1 : Nat) : Int) = (.go ⟨[0], id, ch, lv, wa, .next⟩, (e.pt 3 (TA d + 5 * ((k + 1 : Nat) : Int) + 2) 4294967296).em 10 0 ((k + 1 : Nat) : Int) 0 0) := by
    unfold afq
    simp only [F.l, a3]
    rw [if_pos ((azz (F.in (by omega))).2 hg), ay7, azm, hg, if_pos rfl]
  have F1 := F.pt_jn (c := 3) (t := k + 1) (x := 4294967296) (by omega) (by decide)
  have C1 := C _ _ _ F1 c (fun t ht => by unfold aok; rw [if_neg ht]) (by unfold aok; rw [if_pos rfl]) ((q.length : Nat) : Int)
  have hd := axI (p := p) (q := q) (d := (d : Int)) (t0 := t0J 2 0 (-1) ((pc : Nat) : Int) (acy (k + 1))) (ks := ks) (b := b) (walk := walk) (low := low) (up := up) (last := last) kl k5 (by have := hq.1; omega) (ayg hq)
  refine .inl ⟨_, _, _, e1, ?_, PA.next (left := 0) (C1.to F1.em rfl) ⟨hpc, .inl rfl⟩ hk .nil r0 (fo.snoc hd)⟩
  unfold muN; rw [if_pos rfl]; omega
end
section
variable {p q : List Ins} {d a k : Nat} {ks : List TkV} {sf lf jf wf : Nat → Int} {e : EnvP} {pc m i μ : Nat} {id ch lv wa walk low up wk ot x : Int} {last : Ev} {u : TkV}
theorem awk (hp : apo p) (C : CM p q d k k ks sf lf jf wf e) (hi : p[pc]? = some ⟨2, ((i : Nat) : Int), 0⟩) (ik : i < k) (hk : k ≤ pc) (sk : SK p m pc k) (r0 : e.rc 0 = ahB ((pc + 1 : Nat) : Int) 0 ((i : Int) + 1) k) (fo : FO p q d e.evs (mZ p q d k m ks [0] walk low up last)) : aoi p q d (amA 0 e ⟨[0], id, (i : Int) + 1, lv, wa, .j2⟩) (60 * (p.length - (pc + 1)) + 20 + 19) := by
  rw [apD C.c (t := 0) (by decide) rfl]
  obtain ⟨a1, a2, a3, a4, a5⟩ := agF C.f.hd (t := 0) (by decide)
  have e1 : afq 0 e ⟨[0], id, (i : Int) + 1, lv, wa, .j2⟩ ((0 : Nat) : Int) = (.go ⟨[0], id, (i : Int) + 1, lv, wa, .j3⟩, e.pt 2 (TA d + 5 * ((0 : Nat) : Int)) 3) := by
    unfold afq
    simp only [C.f.l, a1]
  exact .inl ⟨_, _, _, e1, by omega, PA.j3 (C.st (t := 0) (by decide) (by decide)) (if_pos rfl) hi ik hk sk r0 fo⟩
theorem awj (hp : apo p) (C : CM p q d k k ks sf lf jf wf e) (s0 : sf 0 = 3) (hi : p[pc]? = some ⟨2, ((i : Nat) : Int), 0⟩) (ik : i < k) (hk : k ≤ pc) (sk : SK p m pc k) (r0 : e.rc 0 = ahB ((pc + 1 : Nat) : Int) 0 ((i : Int) + 1) k) (fo : FO p q d e.evs (mZ p q d k m ks [0] walk low up last)) : aoi p q d (amA 0 e ⟨[0], id, (i : Int) + 1, lv, wa, .j3⟩) (60 * (p.length - (pc + 1)) + 20 + 18) := by
  have hl : pc < p.length := (List.getElem?_eq_some_iff.1 hi).1
  have h6 := hp.1
  have hT : TA d = 12 + 2 * (d : Int) := rfl
  rw [apD C.c (t := 0) (by decide) rfl]
  obtain ⟨a1, a2, a3, a4, a5⟩ := agF C.f.hd (t := i + 1) (by omega)
  have a3 : af7 (ajO d) ((i : Int) + 1) = TA d + 5 * ((i + 1 : Nat) : Int) + 2 := a3
  have hg : e.gt (TA d + 5 * ((i + 1 : Nat) : Int) + 2) = jf (i + 1) := C.f.jn (i + 1) (by omega)
  have hh := azz (e := e) (a := TA d + 5 * ((i + 1 : Nat) : Int) + 2) (o := 0) (C.f.in (by omega))
  have w1 : wu (wi (((0 : Nat) : Int) + 1)) = 1 := by decide +kernel
  obtain ⟨u, hu⟩ : ∃ u, ks[i]? = some u := ⟨ks[i]'(by rw [C.kl]; exact ik), List.getElem?_eq_getElem _⟩
  rcases C.kr i u hu with ⟨hph, hj⟩ | ⟨hph, hj⟩
  · have e1 : afq 0 e ⟨[0], id, (i : Int) + 1, lv, wa, .j3⟩ ((0 : Nat) : Int) = (.go ⟨[0], id, (i : Int) + 1, lv, wa, .j4⟩, (e.pt 3 (TA d + 5 * ((i + 1 : Nat) : Int) + 2) 1).em 6 0 0 ((i : Int) + 1) 0) := by
      unfold afq
      simp only [C.f.l, a3, w1]
      rw [if_pos (hh.2 (hg.trans hj)), azm, hg, if_pos hj]
      rfl
    have hd := avd (q := q) (d := (d : Int)) (walk := walk) (low := low) (up := up) (last := last) C.kl (by omega) hu hph (by omega) sk.1 sk.2 hi
    exact .inl ⟨_, _, _, e1, by show (60 * (p.length - (pc + 1)) + 20) + 3 < _; omega, PA.j4 (C.f.pt_jn (t := i + 1) (by omega) (by decide)).em C.c C.kl (by omega) s0 C.l0 (C.lz _ (by omega)) (C.wz _ (by omega) (by omega)) (by omega) (fo.snoc hd)⟩
  · have e1 : afq 0 e ⟨[0], id, (i : Int) + 1, lv, wa, .j3⟩ ((0 : Nat) : Int) = (.go ⟨[0], id, (i : Int) + 1, lv, wa, .j6⟩, e.pt 3 (TA d + 5 * ((i + 1 : Nat) : Int) + 2) 4294967296) := by
      unfold afq
      simp only [C.f.l, a3, w1]
      rw [if_neg (fun h => absurd ((hg.symm.trans (hh.1 h)).symm.trans hj) (by decide)), azm, hg, if_neg (by omega), hj]
    have F1 := (C.f.pt_jn (c := 3) (t := i + 1) (x := 4294967296) (by omega) (by decide)).fn (sf' := sf) (lf' := lf) (jf' := jf) (wf' := wf) (fun _ _ => rfl) (fun _ _ => rfl) (fun t _ => by
      unfold aok
      split
      · rename_i h; rw [h, hj]
      · rfl) (fun _ _ => rfl)
    exact .inl ⟨_, _, _, e1, by omega, PA.j6 (C.to F1 rfl) hi hu hph hk sk r0 fo⟩
theorem awi {pc : Int} (F : FA d a sf lf jf wf e) (c : e.c = ai3 p q (d : Int)) (kl : ks.length = k) (k6 : k ≤ 6) (s0 : sf 0 = 3) (l0 : lf 0 = 0) (li : 0 ≤ lf (i + 1) ∧ lf (i + 1) ≤ 1) (wi_ : wf (i + 1) = 0) (i6 : i < 6) (fo : FO p q d e.evs (mJ p q (d : Int) (t0J 3 wk ot pc (acy k)) ks (wJ [] 0 0 (-1) last))) : aoi p q d (amA 0 e ⟨[0], id, (i : Int) + 1, lv, wa, .j4⟩) (μ + 3) := by
  have hT : TA d = 12 + 2 * (d : Int) := rfl
  rw [apD c (t := 0) (by decide) rfl]
  obtain ⟨a1, a2, a3, a4, a5⟩ := agF F.hd (t := 0) (by decide)
  have hg : e.gt (TA d + 5 * ((0 : Nat) : Int) + 1) = 0 := (F.lv 0 (by decide)).trans l0
  have e1 : afq 0 e ⟨[0], id, (i : Int) + 1, lv, wa, .j4⟩ ((0 : Nat) : Int) = (.go ⟨[0], id, (i : Int) + 1, 0, wa, .j5 (.l1 ((i : Int) + 1))⟩, e.lk (TA d + 5 * ((0 : Nat) : Int) + 1)) := by
    unfold afq
    simp only [F.l, a2, hg]
    rw [show wi 0 = 0 from by decide +kernel]
  exact .inl ⟨_, _, _, e1, by omega, PA.j5 (μ := μ) (F.lk (by omega)) c kl k6 s0 l0 li wi_ i6 fo⟩
theorem awh {pc : Int} (F : FA d a sf lf jf wf e) (c : e.c = ai3 p q (d : Int)) (kl : ks.length = k) (k6 : k ≤ 6) (s0 : sf 0 = 3) (l0 : lf 0 = 0) (li : 0 ≤ lf (i + 1) ∧ lf (i + 1) ≤ 1) (wi_ : wf (i + 1) = 0) (i6 : i < 6) (fo : FO p q d e.evs (mJ p q (d : Int) (t0J 3 wk ot pc (acy k)) ks (wJ [] 0 0 (-1) last))) : aoi p q d (amA 0 e ⟨[0], id, (i : Int) + 1, 0, wa, .j5 (.l1 ((i : Int) + 1))⟩) (μ + 2) := by
  have hT : TA d = 12 + 2 * (d : Int) := rfl
  rw [apD c (t := 0) (by decide) rfl]
  obtain ⟨a1, a2, a3, a4, a5⟩ := agF F.hd (t := i + 1) (by omega)
  have a2 : afW (ajO d) ((i : Int) + 1) = TA d + 5 * ((i + 1 : Nat) : Int) + 1 := a2
  have hg : e.gt (TA d + 5 * ((i + 1 : Nat) : Int) + 1) = lf (i + 1) := F.lv (i + 1) (by omega)
  have hF : ¬ ¬ avw e ((i : Int) + 1) 0 := fun h => h ⟨isA c (t := i + 1) (by omega), by decide, by rw [c]; show (0 : Int) < 2; decide⟩
  have e2 : af0 0 0 e (.l1 ((i : Int) + 1)) = (.go (.l4 ((i : Int) + 1)), e.lk (TA d + 5 * ((i + 1 : Nat) : Int) + 1)) := by
    unfold af0 ahk
    simp only [if_neg hF, F.l, a2, hg]
    rw [if_pos (by rw [acp (abc (by omega))]; exact li.1)]
    rfl
  exact .inl ⟨_, _, _, aA0 e2, by omega, PA.j5b (μ := μ) (F.lk (by omega)) c kl k6 s0 wi_ i6 fo⟩
theorem auk {pc : Int} (F : FA d a sf lf jf wf e) (c : e.c = ai3 p q (d : Int)) (kl : ks.length = k) (k6 : k ≤ 6) (s0 : sf 0 = 3) (wi_ : wf (i + 1) = 0) (i6 : i < 6) (fo : FO p q d e.evs (mJ p q (d : Int) (t0J 3 wk ot pc (acy k)) ks (wJ [] 0 0 (-1) last))) : aoi p q d (amA 0 e ⟨[0], id, ch, 0, wa, .j5 (.l4 ((i : Int) + 1))⟩) (μ + 1) := by
  have hT : TA d = 12 + 2 * (d : Int) := rfl
  rw [apD c (t := 0) (by decide) rfl]
  obtain ⟨a1, a2, a3, a4, a5⟩ := agF F.hd (t := i + 1) (by omega)
  have a4 : agi (ajO d) ((i : Int) + 1) = TA d + 5 * ((i + 1 : Nat) : Int) + 3 := a4
  have hg : e.gt (TA d + 5 * ((i + 1 : Nat) : Int) + 3) = 0 := (F.wt (i + 1) (by omega)).trans wi_
  have e2 : af0 0 0 e (.l4 ((i : Int) + 1)) = (.fin 0 0, e.lk (TA d + 5 * ((i + 1 : Nat) : Int) + 3)) := by
    unfold af0
    simp only [F.l, a4, hg, if_true]
  have F1 := (F.lk (a := TA d + 5 * ((i + 1 : Nat) : Int) + 3) (by omega)).em (c := 7) (w := 0) (t' := ((0 : Nat) : Int)) (o := 0) (v := 0)
  have hd := ats (p := p) (q := q) (d := (d : Int)) (ks := ks) (last := last) kl k6 (ph := 3) (wk := wk) (ot := ot) (pc := pc) (kids := acy k) (st := [])
  refine .inr ⟨_, (aA1 e2).trans avO, c, F1.l, F1.len, 3, 3, _, _, _, _, _, _, .inl rfl, ?_, rfl, by omega, fo.snoc hd⟩
  have h0 := F1.st 0 (by decide)
  rw [show TA d + 5 * ((0 : Nat) : Int) = TA d from by omega, s0] at h0
  exact h0
theorem awg (C : CM p q d k k ks sf lf jf wf e) (hi : p[pc]? = some ⟨2, ((i : Nat) : Int), 0⟩) (hu : ks[i]? = some u) (hph : u.view.phase = 4) (hk : k ≤ pc) (sk : SK p m pc k) (r0 : e.rc 0 = ahB ((pc + 1 : Nat) : Int) 0 ((i : Int) + 1) k) (fo : FO p q d e.evs (mZ p q d k m ks [0] walk low up last)) : aoi p q d (amA 0 e ⟨[0], id, (i : Int) + 1, lv, wa, .j6⟩) (60 * (p.length - (pc + 1)) + 20 + 17) := by
  rw [apD C.c (t := 0) (by decide) rfl]
  obtain ⟨a1, a2, a3, a4, a5⟩ := agF C.f.hd (t := 0) (by decide)
  have e1 : afq 0 e ⟨[0], id, (i : Int) + 1, lv, wa, .j6⟩ ((0 : Nat) : Int) = (.go ⟨[0], id, (i : Int) + 1, lv, wa, .j7⟩, e.pt 2 (TA d + 5 * ((0 : Nat) : Int)) 2) := by
    unfold afq
    simp only [C.f.l, a1]
  exact .inl ⟨_, _, _, e1, by omega, PA.j7 (C.st (t := 0) (by decide) (by decide)) hi hu hph hk sk r0 fo⟩
theorem awf (hp : apo p) (C : CM p q d k k ks sf lf jf wf e) (hi : p[pc]? = some ⟨2, ((i : Nat) : Int), 0⟩) (hu : ks[i]? = some u) (hph : u.view.phase = 4) (hk : k ≤ pc) (sk : SK p m pc k) (r0 : e.rc 0 = ahB ((pc + 1 : Nat) : Int) 0 ((i : Int) + 1) k) (fo : FO p q d e.evs (mZ p q d k m ks [0] walk low up last)) : aoi p q d (amA 0 e ⟨[0], id, (i : Int) + 1, lv, wa, .j7⟩) (60 * (p.length - (pc + 1)) + 20 + 16) := by
  have hl : pc < p.length := (List.getElem?_eq_some_iff.1 hi).1
  have h6 := hp.1
  rw [apD C.c (t := 0) (by decide) rfl]
  obtain ⟨a1, a2, a3, a4, a5⟩ := agF C.f.hd (t := 0) (by decide)
  have r0' : e.rc ((0 : Nat) : Int) = ahB ((pc + 1 : Nat) : Int) 0 ((i : Int) + 1) k := r0
  have e1 : afq 0 e ⟨[0], id, (i : Int) + 1, lv, wa, .j7⟩ ((0 : Nat) : Int) = (.go ⟨[0], id, (i : Int) + 1, lv, wa, .next⟩, ((e.pt 2 (TA d + 5 * ((0 : Nat) : Int) + 3) 0).pr ((0 : Nat) : Int) (ahB ((pc + 1 : Nat) : Int) 0 (-1) k)).em 8 0 0 ((i : Int) + 1) 0) := by
    unfold afq
    simp only [C.f.l, a4, r0']
    rfl
  have hd := axH (q := q) (d := (d : Int)) (walk := walk) (low := low) (up := up) (last := last) C.kl (by omega) hu hph (by omega) sk.1 sk.2 hi
  have wip : wi ((pc : Int) + 1) = ((pc + 1 : Nat) : Int) := acp (abc (by omega))
  rw [wip] at hd
  have C1 := C.wt0 (c := 2) (x := 0) (by decide)
  refine .inl ⟨_, _, _, e1, ?_, PA.next (left := 0) (pc := pc + 1) (C1.to C1.f.pr.em rfl) ⟨hl, .inl rfl⟩ (by omega) .nil ((arT C1.f.rl (y := 0) (by decide) 0).trans (if_pos rfl)) (fo.snoc hd)⟩
  unfold muN; rw [if_pos rfl]; omega
theorem awl (hp : apo p) (C : CM p q d k k ks sf lf jf wf e) (s0 : sf 0 = 4) (hk : k ≤ p.length) (sk : SK p m p.length k) (fo : FO p q d e.evs (mZ p q d k m ks [0] walk low up last)) : aoi p q d (amA 0 e ⟨[0], id, ch, lv, wa, .f2⟩) 5 := by
  have h6 := hp.1
  have hT : TA d = 12 + 2 * (d : Int) := rfl
  rw [apD C.c (t := 0) (by decide) rfl]
  obtain ⟨a1, a2, a3, a4, a5⟩ := agF C.f.hd (t := 0) (by decide)
  have hg : e.gt (TA d + 5 * ((0 : Nat) : Int) + 2) = 0 := (C.f.jn 0 (by decide)).trans C.j0
  have e1 : afq 0 e ⟨[0], id, ch, lv, wa, .f2⟩ ((0 : Nat) : Int) = (.fin 0 0, (e.pt 3 (TA d + 5 * ((0 : Nat) : Int) + 2) 4294967296).em 10 0 0 0 0) := by
    unfold afq
    simp only [C.f.l, a3]
    rw [if_pos ((azz (C.f.in (by omega))).2 hg), avO, azm, hg, if_pos rfl]
    rfl
  have F1 := (C.f.pt_jn (c := 3) (t := 0) (x := 4294967296) (by decide) (by decide)).em (c := 10) (w := 0) (t' := 0) (o := 0) (v := 0)
  have hd := axJ (q := q) (d := (d : Int)) (walk := walk) (low := low) (up := up) (last := last) C.kl (by omega) (by omega) sk.1 sk.2
  refine .inr ⟨_, e1, C.c, F1.l, F1.len, 4, 4, _, _, _, _, _, _, .inr rfl, ?_, rfl, by have := C.kl; omega, fo.snoc hd⟩
  have h0 := F1.st 0 (by decide)
  rw [show TA d + 5 * ((0 : Nat) : Int) = TA d from by omega, s0] at h0
  exact h0
end
theorem awX {p q : List Ins} {d : Nat} (hp : apo p) (hq : av1 q) {r : RunS} {e : EnvP} {μ : Nat} (H : PA p q d r e μ) : aoi p q d (amA 0 e r) μ := by
  cases H with
  | next C h hk sk r0 fo => exact ar2 hp C h hk sk r0 fo
  | s2 hb C hi hk sk r0 r1 fo => exact awd hp hb C hi hk sk r0 r1 fo
  | s3 hb hs C hp' hk r0 r1 st fo => exact awc hp hb hs C hp' hk r0 r1 st fo
  | s5 hb C hp' hk r0 r1 st fo => exact awa hp hq hb C hp' hk r0 r1 st fo
  | s4 hb C hp' hk r0 fo => exact awb hb C hp' hk r0 fo
  | kid F C c k5 kl jk hp' hk r0 h r1 fo => exact auj hp hq F C c k5 kl jk hp' hk r0 h r1 fo
  | kidf F C c k5 kl jk hp' hk r0 fo => exact ar3 hp hq F C c k5 kl jk hp' hk r0 fo
  | j2 C hi ik hk sk r0 fo => exact awk hp C hi ik hk sk r0 fo
  | j3 C s0 hi ik hk sk r0 fo => exact awj hp C s0 hi ik hk sk r0 fo
  | j4 F c kl k6 s0 l0 li wi_ i6 fo => exact awi F c kl k6 s0 l0 li wi_ i6 fo
  | j5 F c kl k6 s0 l0 li wi_ i6 fo => exact awh F c kl k6 s0 l0 li wi_ i6 fo
  | j5b F c kl k6 s0 wi_ i6 fo => exact auk F c kl k6 s0 wi_ i6 fo
  | j6 C hi hu hph hk sk r0 fo => exact awg C hi hu hph hk sk r0 fo
  | j7 C hi hu hph hk sk r0 fo => exact awf hp C hi hu hph hk sk r0 fo
  | f2 C s0 hk sk fo => exact awl hp C s0 hk sk fo
end
section
open Go Go.RowKit
set_option maxRecDepth 100000
section
variable [Tb] {K : Nat} {e : EnvP} {w : Int}
theorem ajM {j : Nat} {e' : EnvP} {r : RunS} (h : Stp j e e') : Stp j e (ahX r e').2 := h
theorem awW {a v t : Int} {r : RecP} (hr : ∀ K, (∀ r ∈ e.recs, r.kids.length ≤ K) → r.kids.length ≤ K + 1) : Stp 0 e ((e.pt 2 a v).pr t r) := Stp.pr (Stp.pt (by decide)) hr
theorem atz {x : RecP} {i : Ins} : (an0 x i).kids = x.kids := by
  unfold an0
  repeat' split
  all_goals rfl
theorem aym (hK : EOk K e) (r : RunS) : Stp 2 e (amA w e r).2 := by
  obtain ⟨st, id, ch, lv, wt, c⟩ := r
  unfold amA
  by_cases hT : IsT e (aaJ st)
  · have hR : 0 ≤ aaJ st ∧ aaJ st < (e.recs.length : Int) := ⟨hT.1, by have := hT.2; have := hK.ct; omega⟩
    have hkid : ∀ K, (∀ r ∈ e.recs, r.kids.length ≤ K) → (e.rc (aaJ st)).kids.length ≤ K + 1 := fun K h => Nat.le_succ_of_le (anD hR K h)
    have hkid1 : ∀ v : Int, ∀ K, (∀ r ∈ e.recs, r.kids.length ≤ K) → ((e.rc (aaJ st)).kids ++ [v]).length ≤ K + 1 := fun v K h => by
      have := anD hR K h
      rw [List.length_append, List.length_singleton]; omega
    rw [if_neg (fun h => h hT)]
    cases c with
    | next =>
      simp only [afq, aiR]
      split
      · exact Stp.le (awW hkid) (Nat.zero_le _)
      split
      · exact Stp.le (.pt (by decide)) (by decide)
      split
      · exact Stp.le (Stp.pr Stp.refl fun K h => by rw [atz]; exact hkid K h) (Nat.zero_le _)
      split
      · split
        · exact Stp.le (Stp.pr (Stp.pr aru (hkid1 _)) fun K h => Nat.zero_le _) (Nat.zero_le _)
        · exact Stp.le (Stp.em (Stp.pr aru (hkid1 _))) (Nat.le_succ 1)
      split
      · exact Stp.le (Stp.pr Stp.refl hkid) (Nat.zero_le _)
      · exact Stp.le (awW hkid) (Nat.zero_le _)
    | s2 s =>
      have h := amW (e := e) (t := id) (v := lv) s
      revert h
      simp only [afq]
      rcases aci id lv e s with ⟨r | ⟨c, y⟩, e'⟩ <;> intro h
      · exact h.le (by decide)
      · exact h.em.le (by decide)
    | s3 s =>
      have h := ajG (e := e) (w := w) (v := lv) (x := id) s
      revert h
      simp only [afq]
      rcases acj w lv id e s with ⟨r | ⟨c, y⟩, e'⟩ <;> intro h <;> exact h.le (by decide)
    | s4 s =>
      have h := arX (e := e) (w := w) (v := lv) s
      revert h
      simp only [afq]
      rcases ai4 w lv e s with ⟨r | ⟨c, y⟩, e'⟩ <;> intro h <;> exact h.le (by decide)
    | s5 => exact (an6 (w := w) (t := id) hK.st).le (by decide)
    | j2 => exact Stp.le (.pt (by decide)) (by decide)
    | j3 =>
      simp only [afq]
      split
      · exact Stp.cas.em.le (by decide)
      · exact Stp.cas.le (by decide)
    | j4 => exact Stp.lk.le (by decide)
    | j5 s =>
      have h := arW (e := e) (w := w) (v := lv) s
      revert h
      simp only [afq]
      rcases af0 w lv e s with ⟨r | ⟨c, y⟩, e'⟩ <;> intro h
      · exact h.le (by decide)
      · exact ajM h.em
    | j6 => exact Stp.le (.pt (by decide)) (by decide)
    | j7 => exact Stp.le (Stp.em (awW hkid)) (Nat.le_succ 1)
    | f2 =>
      simp only [afq]
      split
      · exact ajM (Stp.cas.em.le (by decide))
      · exact Stp.cas.em.le (by decide)
    | f3 =>
      simp only [afq]
      split
      · exact Stp.lk.le (by decide)
      · exact ajM (Stp.lk.le (by decide))
    | f4 s =>
      have h := au9 (e := e) (w := w) (t := wt) s
      revert h
      simp only [afq]
      rcases agG w wt e s with ⟨r | ⟨c, y⟩, e'⟩ <;> intro h <;> exact h.le (by decide)
    | f5 v s =>
      have h := arX (e := e) (w := w) (v := v) s
      revert h
      simp only [afq]
      rcases ai4 w v e s with ⟨r | ⟨c, y⟩, e'⟩ <;> intro h
      · exact h.le (by decide)
      · exact ajM (h.le (by decide))
    | f6 =>
      simp only [afq]
      split
      · exact (an6 (w := w) (t := wt) hK.st).le (by decide)
      · exact ajM ((an6 (w := w) (t := wt) hK.st).le (by decide))
  · rw [if_pos hT]; exact Stp.refl.le (by decide)
end
end
end Go.Proofs.YtlcelajkhklkbaaGreat
