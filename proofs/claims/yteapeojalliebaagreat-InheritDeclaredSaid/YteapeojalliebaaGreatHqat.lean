/- InheritDeclared answers true. -/
import Derived.Test.YteapeojalliebaaGreatHqas
set_option linter.all false
namespace Go.Proofs.YteapeojalliebaaGreat
open Go Go.RowKit
set_option maxRecDepth 100000
variable [Tb]
theorem aj2 {c : Cfg} (h : DecOk c) : aaK (abl c) fun o => o.1.1.length ≤ 200 := by
  have hs := h.sn
  have e0 : wi (40 * ((c.subs.length : Nat) : Int)) = 40 * (c.subs.length : Int) := aaH (aao (by omega))
  unfold abl
  refine aaK.bind (P := fun z => z.1.length ≤ 200) (acd (fun x => 0 ≤ x.2.1 ∧ (x.1.length : Int) ≤ x.2.1 ∧ x.2.1 ≤ 40 * (c.subs.length : Int)) (fun x => (40 * (c.subs.length : Int) - x.2.1).toNat) (fun self x hx ih => ?istep) _ _ ⟨Int.le_refl 0, Int.le_refl 0, by show (0 : Int) ≤ _; omega⟩ (by show (_ - 0 : Int).toNat < _; omega)) fun z hz => .some_ hz
  case istep =>
    obtain ⟨q0, q1, q2⟩ := hx
    have e1 : wi (x.2.1 + 1) = x.2.1 + 1 := aaH (aao (by omega))
    rw [e0, e1]
    refine aaK.ite (fun hlt => ?_) fun _ => .some_ (by show x.1.length ≤ 200; omega)
    unfold ac1
    rw [bnd]
    refine .guard (by simp only [List.length_singleton]; omega) fun _ => ih _ ⟨by show 0 ≤ x.2.1 + 1; omega, ?_, by show x.2.1 + 1 ≤ _; omega⟩ (by show (_ - (x.2.1 + 1) : Int).toNat < (_ - x.2.1 : Int).toNat; omega)
    show ((x.1 ++ [_]).length : Int) ≤ x.2.1 + 1
    rw [List.length_append, List.length_singleton]
    omega
theorem aoc {c : Cfg} (hd : DecOk c) {y : List Int} {l : List EntV} (hy : y.length ≤ 1000000) (hl : l.length ≤ 600) : aaK (lpF (awm y c) 18446744073709551616 (l, 0, ())) fun z => z.1.length ≤ 6600 := by
  have hw := hd.w
  refine acd (fun x => (0 ≤ x.2.1 ∧ x.2.1 ≤ 30) ∧ (x.1.length : Int) ≤ 600 + 200 * x.2.1) (fun x => (30 - x.2.1).toNat) (fun self x hx ih => ?_) _ _ ⟨⟨Int.le_refl 0, by show (0 : Int) ≤ 30; omega⟩, by show (l.length : Int) ≤ 600 + 200 * 0; omega⟩ (by show (30 - 0 : Int).toNat < _; omega)
  obtain ⟨m, i, ⟨⟩⟩ := x
  obtain ⟨⟨q0, q1⟩, q2⟩ := hx
  simp only at q0 q1 q2
  have fin : m.length ≤ 6600 := by omega
  have e1 : wi (3 * i) = 3 * i := aaH (aao (by omega))
  have e2 : wi (c.workers + 1) = c.workers + 1 := aaH (aao (by omega))
  have e3 : wi (i + 1) = i + 1 := aaH (aao (by omega))
  unfold awm
  refine aaK.ite (fun _ => aaK.ite (fun hlt => ?_) fun _ => .some_ fin) fun _ => .some_ fin
  have hlt : i < 30 := hlt
  simp only
  rw [e1, e2, e3]
  refine (axv hy (by omega) (by omega)).bind fun r hr => .guard (by omega) fun _ => ?_
  refine ih _ ⟨⟨by show 0 ≤ i + 1; omega, by show i + 1 ≤ 30; omega⟩, ?_⟩ (by show (30 - (i + 1) : Int).toNat < (30 - i : Int).toNat; omega)
  show ((m ++ r.1.1).length : Int) ≤ 600 + 200 * (i + 1)
  rw [List.length_append]
  omega
theorem arS {c : Cfg} : EG 0 (aqA c) (0, [], 0, 0, 0, 0, ()) := ⟨rfl, rfl, fun s h => (by cases h), .nil⟩
theorem awI {y0 y1 y2 : List Int} {o : (Cfg × Unit) × Unit} (e : afU y0 = some o) (ho : DecOk o.1.1) (hw : o.1.1.workers = (((1 : Nat) : Int))) : aaK (aaU y0 y1 y2) fun r => r.1.1 = true := by
  obtain ⟨⟨c, ⟨⟩⟩, ⟨⟩⟩ := o
  simp only at ho hw
  unfold aaU
  refine (ahr y0 [y2] (by simp)).bind fun r hr => aaK.ite (fun _ => .some_ rfl) fun hb => aaK.ite (fun _ => .some_ rfl) fun hlen => ?_
  have hy : y2.length ≤ 400 := (hr (by cases hq : r.1.1; exact absurd (by rw [hq]; rfl) hb; rfl)).2 y2 (by simp)
  rw [e, bnd]
  refine (aj2 ho).bind fun r3 h3 => ?_
  refine (ajU (b := y1) (n := 400) (by omega) (by decide)).bind fun r4 h4 => .guard (by have h3 : r3.1.1.length ≤ 200 := h3; have h4 : r4.1.1.length ≤ 400 := h4; omega) fun _ => ?_
  have h3 : r3.1.1.length ≤ 200 := h3
  have h4 : r4.1.1.length ≤ 400 := h4
  refine (aoc ho (y := y2) (l := r3.1.1 ++ r4.1.1) (by omega) (by rw [List.length_append]; omega)).bind fun s hs => ?_
  rw [avH (ahL ho), bnd, if_neg (fun h => h rfl), av4 ho, bnd, if_pos hw, aku (l := aaI c) (j := 0), bnd]
  have hj : JI c 0 (aqA c) [ahW (aaI c) 0 ⟨0, 0, 0, 0, .top⟩] (ar2 c.subs c.workers ⟨0, 0, false, .n1⟩) := avL ho fun j w hj => by
    match j, hj with
    | 0, hj => exact (Option.some.inj hj).symm
  refine (aFt anv (l := s.1) hj arS (by omega)).bind fun z hz => ?_
  obtain ⟨zi, ze, z0, zc, zg, ⟨⟩⟩ := z
  obtain ⟨a1, a2, _⟩ := hz
  have a1 : JI c (0 + s.1.length) ze [z0] zc := a1
  have a2 : EG (0 + s.1.length) ze zg := a2
  have hev := anv.ev a1
  obtain ⟨pub, g1, _, _⟩ := a1
  rw [if_neg (by decide)]
  refine (aon a2.l (by omega)).bind fun v hv => ?_
  rw [hv.1]
  refine (art a2.l (by omega)).bind fun h hh => ?_
  have hcl : ze.m.cells.length ≤ 1000000 := by
    have q0 := ho.t
    have q1 := af3 ho
    have q2 : abA c = (aaI c).table + 5 * c.tasks := rfl
    have q3 := g1.n
    omega
  rw [aoq ze.m hcl, bnd, hh]
  exact ale g1.m g1.n (by omega) g1.g.ev fun t ht hd => (g1.g.dl t ht hd).2
theorem awH {y0 y1 y2 : List Int} {o : (Cfg × Unit) × Unit} (e : afU y0 = some o) (ho : DecOk o.1.1) (hw : o.1.1.workers = (((2 : Nat) : Int))) : aaK (abd y0 y1 y2) fun r => r.1.1 = true := by
  obtain ⟨⟨c, ⟨⟩⟩, ⟨⟩⟩ := o
  simp only at ho hw
  unfold abd
  refine (ahr y0 [y2] (by simp)).bind fun r hr => aaK.ite (fun _ => .some_ rfl) fun hb => aaK.ite (fun _ => .some_ rfl) fun hlen => ?_
  have hy : y2.length ≤ 400 := (hr (by cases hq : r.1.1; exact absurd (by rw [hq]; rfl) hb; rfl)).2 y2 (by simp)
  rw [e, bnd]
  refine (aj2 ho).bind fun r3 h3 => ?_
  refine (ajU (b := y1) (n := 400) (by omega) (by decide)).bind fun r4 h4 => .guard (by have h3 : r3.1.1.length ≤ 200 := h3; have h4 : r4.1.1.length ≤ 400 := h4; omega) fun _ => ?_
  have h3 : r3.1.1.length ≤ 200 := h3
  have h4 : r4.1.1.length ≤ 400 := h4
  refine (aoc ho (y := y2) (l := r3.1.1 ++ r4.1.1) (by omega) (by rw [List.length_append]; omega)).bind fun s hs => ?_
  rw [avH (ahL ho), bnd, if_neg (fun h => h rfl), av4 ho, bnd, if_pos hw, aku (l := aaI c) (j := 0), bnd, aku (l := aaI c) (j := 1), bnd]
  have hj : JI c 0 (aqA c) [ahW (aaI c) 0 ⟨0, 0, 0, 0, .top⟩, ahW (aaI c) 1 ⟨0, 0, 0, 0, .top⟩] (ar2 c.subs c.workers ⟨0, 0, false, .n1⟩) := avL ho fun j w hj => by
    match j, hj with
    | 0, hj => exact (Option.some.inj hj).symm
    | 1, hj => exact (Option.some.inj hj).symm
  refine (aFs anv (l := s.1) hj arS (by omega)).bind fun z hz => ?_
  obtain ⟨zi, ze, z0, z1, zc, zg, ⟨⟩⟩ := z
  obtain ⟨a1, a2, _⟩ := hz
  have a1 : JI c (0 + s.1.length) ze [z0, z1] zc := a1
  have a2 : EG (0 + s.1.length) ze zg := a2
  have hev := anv.ev a1
  obtain ⟨pub, g1, _, _⟩ := a1
  rw [if_neg (by decide)]
  refine (aon a2.l (by omega)).bind fun v hv => ?_
  rw [hv.1]
  refine (art a2.l (by omega)).bind fun h hh => ?_
  have hcl : ze.m.cells.length ≤ 1000000 := by
    have q0 := ho.t
    have q1 := af3 ho
    have q2 : abA c = (aaI c).table + 5 * c.tasks := rfl
    have q3 := g1.n
    omega
  rw [aoq ze.m hcl, bnd, hh]
  exact ale g1.m g1.n (by omega) g1.g.ev fun t ht hd => (g1.g.dl t ht hd).2
theorem awG {y0 y1 y2 : List Int} {o : (Cfg × Unit) × Unit} (e : afU y0 = some o) (ho : DecOk o.1.1) (hw : o.1.1.workers = (((3 : Nat) : Int))) : aaK (abc y0 y1 y2) fun r => r.1.1 = true := by
  obtain ⟨⟨c, ⟨⟩⟩, ⟨⟩⟩ := o
  simp only at ho hw
  unfold abc
  refine (ahr y0 [y2] (by simp)).bind fun r hr => aaK.ite (fun _ => .some_ rfl) fun hb => aaK.ite (fun _ => .some_ rfl) fun hlen => ?_
  have hy : y2.length ≤ 400 := (hr (by cases hq : r.1.1; exact absurd (by rw [hq]; rfl) hb; rfl)).2 y2 (by simp)
  rw [e, bnd]
  refine (aj2 ho).bind fun r3 h3 => ?_
  refine (ajU (b := y1) (n := 400) (by omega) (by decide)).bind fun r4 h4 => .guard (by have h3 : r3.1.1.length ≤ 200 := h3; have h4 : r4.1.1.length ≤ 400 := h4; omega) fun _ => ?_
  have h3 : r3.1.1.length ≤ 200 := h3
  have h4 : r4.1.1.length ≤ 400 := h4
  refine (aoc ho (y := y2) (l := r3.1.1 ++ r4.1.1) (by omega) (by rw [List.length_append]; omega)).bind fun s hs => ?_
  rw [avH (ahL ho), bnd, if_neg (fun h => h rfl), av4 ho, bnd, if_pos hw, aku (l := aaI c) (j := 0), bnd, aku (l := aaI c) (j := 1), bnd, aku (l := aaI c) (j := 2), bnd]
  have hj : JI c 0 (aqA c) [ahW (aaI c) 0 ⟨0, 0, 0, 0, .top⟩, ahW (aaI c) 1 ⟨0, 0, 0, 0, .top⟩, ahW (aaI c) 2 ⟨0, 0, 0, 0, .top⟩] (ar2 c.subs c.workers ⟨0, 0, false, .n1⟩) := avL ho fun j w hj => by
    match j, hj with
    | 0, hj => exact (Option.some.inj hj).symm
    | 1, hj => exact (Option.some.inj hj).symm
    | 2, hj => exact (Option.some.inj hj).symm
  refine (aFr anv (l := s.1) hj arS (by omega)).bind fun z hz => ?_
  obtain ⟨zi, ze, z0, z1, z2, zc, zg, ⟨⟩⟩ := z
  obtain ⟨a1, a2, _⟩ := hz
  have a1 : JI c (0 + s.1.length) ze [z0, z1, z2] zc := a1
  have a2 : EG (0 + s.1.length) ze zg := a2
  have hev := anv.ev a1
  obtain ⟨pub, g1, _, _⟩ := a1
  rw [if_neg (by decide)]
  refine (aon a2.l (by omega)).bind fun v hv => ?_
  rw [hv.1]
  refine (art a2.l (by omega)).bind fun h hh => ?_
  have hcl : ze.m.cells.length ≤ 1000000 := by
    have q0 := ho.t
    have q1 := af3 ho
    have q2 : abA c = (aaI c).table + 5 * c.tasks := rfl
    have q3 := g1.n
    omega
  rw [aoq ze.m hcl, bnd, hh]
  exact ale g1.m g1.n (by omega) g1.g.ev fun t ht hd => (g1.g.dl t ht hd).2
theorem awF {y0 y1 y2 : List Int} {o : (Cfg × Unit) × Unit} (e : afU y0 = some o) (ho : DecOk o.1.1) (hw : o.1.1.workers = (((4 : Nat) : Int))) : aaK (abb y0 y1 y2) fun r => r.1.1 = true := by
  obtain ⟨⟨c, ⟨⟩⟩, ⟨⟩⟩ := o
  simp only at ho hw
  unfold abb
  refine (ahr y0 [y2] (by simp)).bind fun r hr => aaK.ite (fun _ => .some_ rfl) fun hb => aaK.ite (fun _ => .some_ rfl) fun hlen => ?_
  have hy : y2.length ≤ 400 := (hr (by cases hq : r.1.1; exact absurd (by rw [hq]; rfl) hb; rfl)).2 y2 (by simp)
  rw [e, bnd]
  refine (aj2 ho).bind fun r3 h3 => ?_
  refine (ajU (b := y1) (n := 400) (by omega) (by decide)).bind fun r4 h4 => .guard (by have h3 : r3.1.1.length ≤ 200 := h3; have h4 : r4.1.1.length ≤ 400 := h4; omega) fun _ => ?_
  have h3 : r3.1.1.length ≤ 200 := h3
  have h4 : r4.1.1.length ≤ 400 := h4
  refine (aoc ho (y := y2) (l := r3.1.1 ++ r4.1.1) (by omega) (by rw [List.length_append]; omega)).bind fun s hs => ?_
  rw [avH (ahL ho), bnd, if_neg (fun h => h rfl), av4 ho, bnd, if_pos hw, aku (l := aaI c) (j := 0), bnd, aku (l := aaI c) (j := 1), bnd, aku (l := aaI c) (j := 2), bnd, aku (l := aaI c) (j := 3), bnd]
  have hj : JI c 0 (aqA c) [ahW (aaI c) 0 ⟨0, 0, 0, 0, .top⟩, ahW (aaI c) 1 ⟨0, 0, 0, 0, .top⟩, ahW (aaI c) 2 ⟨0, 0, 0, 0, .top⟩, ahW (aaI c) 3 ⟨0, 0, 0, 0, .top⟩] (ar2 c.subs c.workers ⟨0, 0, false, .n1⟩) := avL ho fun j w hj => by
    match j, hj with
    | 0, hj => exact (Option.some.inj hj).symm
    | 1, hj => exact (Option.some.inj hj).symm
    | 2, hj => exact (Option.some.inj hj).symm
    | 3, hj => exact (Option.some.inj hj).symm
  refine (aFq anv (l := s.1) hj arS (by omega)).bind fun z hz => ?_
  obtain ⟨zi, ze, z0, z1, z2, z3, zc, zg, ⟨⟩⟩ := z
  obtain ⟨a1, a2, _⟩ := hz
  have a1 : JI c (0 + s.1.length) ze [z0, z1, z2, z3] zc := a1
  have a2 : EG (0 + s.1.length) ze zg := a2
  have hev := anv.ev a1
  obtain ⟨pub, g1, _, _⟩ := a1
  rw [if_neg (by decide)]
  refine (aon a2.l (by omega)).bind fun v hv => ?_
  rw [hv.1]
  refine (art a2.l (by omega)).bind fun h hh => ?_
  have hcl : ze.m.cells.length ≤ 1000000 := by
    have q0 := ho.t
    have q1 := af3 ho
    have q2 : abA c = (aaI c).table + 5 * c.tasks := rfl
    have q3 := g1.n
    omega
  rw [aoq ze.m hcl, bnd, hh]
  exact ale g1.m g1.n (by omega) g1.g.ev fun t ht hd => (g1.g.dl t ht hd).2
theorem aA1 {y0 y1 y2 : List Int} (hb : ∀ x ∈ y0, 0 ≤ x ∧ x ≤ 255) :
    aaK (aaU y0 y1 y2) (fun r => r.1.1 = true) ∨ aaK (abd y0 y1 y2) (fun r => r.1.1 = true) ∨ aaK (abc y0 y1 y2) (fun r => r.1.1 = true) ∨ aaK (abb y0 y1 y2) (fun r => r.1.1 = true) := by
  by_cases hl : y0.length ≤ 400
  · obtain ⟨o, e, ho⟩ := auF hb (by omega)
    have hw := ho.w
    have hv : o.1.1.workers = ((1 : Nat) : Int) ∨ o.1.1.workers = ((2 : Nat) : Int) ∨ o.1.1.workers = ((3 : Nat) : Int) ∨ o.1.1.workers = ((4 : Nat) : Int) := by omega
    rcases hv with h | h | h | h
    · exact .inl (awI e ho h)
    · exact .inr (.inl (awH e ho h))
    · exact .inr (.inr (.inl (awG e ho h)))
    · exact .inr (.inr (.inr (awF e ho h)))
  · refine .inl ?_
    unfold aaU
    refine (ahr y0 [y2] (by simp)).bind fun r hr => aaK.ite (fun _ => .some_ rfl) fun h => ?_
    exfalso
    have h1 : r.1.1 = true := by revert h; cases r.1.1 <;> simp
    exact hl (hr h1).1
end Go.Proofs.YteapeojalliebaaGreat
