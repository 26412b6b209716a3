/- The law RunnerComputes answers true: the list, the weight, the end. -/
import Derived.Test.YtgiagoeoifgliaaGreatQcan
set_option linter.all false
namespace Go.Proofs.YtgiagoeoifgliaaGreat
open Go Go.RowKit
set_option maxRecDepth 1000000
noncomputable def bdF (y0 : List Int) (self3 : List Ins × Int × Unit → Option (List Ins × Int × Unit)) (x1 : List Ins × Int × Unit) : Option (List Ins × Int × Unit) :=
  if x1.2.1 < ((y0.length : Nat) : Int) then
   if 0 ≤ x1.2.1 ∧ x1.2.1 < ((y0.length : Nat) : Int) then
    if (((x1.1.length + ([(⟨0, wi (1 + (wi ((Int.tmod (atK17 y0 x1.2.1) 64)))), 0⟩ : Ins)] : List Ins).length : Nat)) : Int) < 1000000000000 then
     self3 (x1.1 ++ ([(⟨0, wi (1 + (wi ((Int.tmod (atK17 y0 x1.2.1) 64)))), 0⟩ : Ins)]), wi (x1.2.1 + 1), ())
    else none
   else none
  else
  some (x1.1, x1.2.1, ())
noncomputable def tailC (p : List Ins) : Option ((Bool × Unit) × (Unit)) :=
 (worksteallaw25House p ([]) 2).bind fun r4 =>
 (worksteallaw25Begun r4.1.1).bind fun r5 =>
 (worksteallaw25Awake).bind fun r6 =>
 if (!r6.1.1) = true then
  some ((false, ()), (()))
 else
 if (!r5.1.2.1) = true then
  some ((false, ()), (()))
 else
 (memoryMemoryCount r5.1.1.m).bind fun r7 =>
 (runnerRun 0 0).bind fun r8 =>
 (workstealmatchAlone ({ r5.1.1 with m := r7.2.1 } : EnvP) r8.1.1 5000).bind fun r9 =>
 if r9.1.1 = 0 then
  (workstealref05Weight p).bind fun r10 =>
  if r9.1.2.2.1 = (wi (r10.1.1 + 2)) then
   (memoryMemoryCount r9.2.1.m).bind fun r11 =>
   if r11.1.1 = (wi (r7.1.1 + 2)) then
    (workstealref06State r4.1.1 0).bind fun r12 =>
    if r12.1.1 < 0 then
     some ((false, ()), (()))
    else
    if ((r11.2.1.cells.length : Nat) : Int) ≤ r12.1.1 then
     some ((false, ()), (()))
    else
    if 0 ≤ r12.1.1 ∧ r12.1.1 < ((r11.2.1.cells.length : Nat) : Int) then
     if (atK0 r11.2.1.cells r12.1.1) = 4 then
      (workstealref06Join r4.1.1 0).bind fun r13 =>
      if r13.1.1 < 0 then
       some ((false, ()), (()))
      else
      if ((r11.2.1.cells.length : Nat) : Int) ≤ r13.1.1 then
       some ((false, ()), (()))
      else
      if 0 ≤ r13.1.1 ∧ r13.1.1 < ((r11.2.1.cells.length : Nat) : Int) then
       some ((decide ((atK0 r11.2.1.cells r13.1.1) = 4294967296), ()), (()))
      else none
     else
     some ((false, ()), (()))
    else none
   else
   some ((false, ()), (()))
  else
  some ((false, ()), (()))
 else
 some ((false, ()), (()))
theorem comp_unf (y : List Int) : worksteallaw25RunnerComputes y = if 32 < ((y.length : Nat) : Int) then some ((true, ()), ()) else (lpF (bdF y) 18446744073709551616 ([], 0, ())).bind fun z2 => tailC z2.1 := by kernel_rfl
def insB (b : Int) : Ins := ⟨0, wi (1 + (wi (Int.tmod b 64))), 0⟩
theorem build_good {y : List Int} (hl : y.length ≤ 32) : Good (lpF (bdF y) 18446744073709551616 ([], 0, ())) fun z => z.1 = y.map insB := by
  refine lp_good (fun x => (0 ≤ x.2.1 ∧ x.2.1 ≤ (y.length : Int)) ∧ x.1 = (y.take x.2.1.toNat).map insB) (fun x => ((y.length : Int) - x.2.1).toNat) (fun self x hx ih => ?_) _ _ ⟨⟨Int.le_refl 0, by show (0 : Int) ≤ _; omega⟩, rfl⟩ (by show ((y.length : Int) - 0).toNat < _; omega)
  obtain ⟨p, i, u⟩ := x
  obtain ⟨⟨h0, h1⟩, h2⟩ := hx
  simp only at h0 h1 h2
  subst h2
  unfold bdF
  refine Good.ite (fun hlt => ?_) fun hge => .some_ ?_
  · have hlt' : i < ((y.length : Nat) : Int) := hlt
    have hin : 0 ≤ i ∧ i < ((y.length : Nat) : Int) := ⟨h0, hlt'⟩
    refine Good.guard hin fun _ => ?_
    have hlen : ((y.take i.toNat).map insB).length ≤ 32 := by rw [List.length_map, List.length_take]; omega
    refine Good.guard (show ((((y.take i.toNat).map insB).length + 1 : Nat) : Int) < 1000000000000 by omega) fun _ => ?_
    have e1 : wi (i + 1) = i + 1 := wi_id (rg_lit (by omega))
    rw [e1]
    refine ih _ ⟨⟨by show 0 ≤ i + 1; omega, by show i + 1 ≤ _; omega⟩, ?_⟩ (by show ((y.length : Int) - (i + 1)).toNat < ((y.length : Int) - i).toNat; omega)
    show (y.take i.toNat).map insB ++ [insB (atK17 y i)] = (y.take (i + 1).toNat).map insB
    have e2 : (i + 1).toNat = i.toNat + 1 := by omega
    have e3 : y[i.toNat]? = some (atK17 y i) := atL_get (d := (dfR 17 : Int)) hin
    rw [e2, List.take_succ, e3, List.map_append]
    rfl
  · have hge' : ¬ i < ((y.length : Nat) : Int) := hge
    show (y.take i.toNat).map insB = y.map insB
    rw [List.take_of_length_le (by omega)]
theorem insB_ok {b : Int} (h : 0 ≤ b ∧ b ≤ 255) : (insB b).op = 0 ∧ (1 ≤ (insB b).a ∧ (insB b).a ≤ 64) ∧ (insB b).b = 0 := by
  have h1 := tmod_lt (a := b) (b := 64) (by omega) h.1
  have e1 : wi (Int.tmod b 64) = Int.tmod b 64 := wi_id (rg_lit (by omega))
  have e2 : wi (1 + Int.tmod b 64) = 1 + Int.tmod b 64 := wi_id (rg_lit (by omega))
  refine ⟨rfl, ?_, rfl⟩
  show 1 ≤ wi (1 + wi (Int.tmod b 64)) ∧ wi (1 + wi (Int.tmod b 64)) ≤ 64
  rw [e1, e2]; omega
theorem awake25 : worksteallaw25Awake = some ((true, ()), ()) := by kernel_rfl
theorem sumA_take {p : List Ins} {i : Nat} (h : i < p.length) : sumA (p.take (i + 1)) = sumA (p.take i) + (p[i]).a := by
  have key : ∀ (l : List Ins) (x : Ins), sumA (l ++ [x]) = sumA l + x.a := fun l x => by
    induction l with
    | nil => simp [sumA]
    | cons y l ih => simp only [List.cons_append, sumA, ih]; omega
  rw [List.take_succ_eq_append_getElem h]
  exact key _ _
theorem weight_comp {p : List Ins} (hc : Comp p) (hl : p.length ≤ 32) : workstealref05Weight p = some ((sumA p, ()), ()) := by
  have hg : Good (workstealref05Weight p) fun o => o.1.1 = sumA p := by
    unfold workstealref05Weight
    refine Good.bind (P := fun z => z.1 = sumA p) (lp_good (fun x => (0 ≤ x.2.1 ∧ x.2.1 ≤ (p.length : Int)) ∧ x.1 = sumA (p.take x.2.1.toNat)) (fun x => ((p.length : Int) - x.2.1).toNat) (fun self x hx ih => ?_) _ _ ⟨⟨Int.le_refl 0, by show (0 : Int) ≤ _; omega⟩, rfl⟩ (by show ((p.length : Int) - 0).toNat < _; omega)) fun z hz => .some_ hz
    obtain ⟨s, i, u⟩ := x
    obtain ⟨⟨h0, h1⟩, h2⟩ := hx
    simp only at h0 h1 h2
    subst h2
    refine Good.ite (fun hlt => ?_) fun hge => .some_ ?_
    · have hlt' : i < ((p.length : Nat) : Int) := hlt
      have hin : 0 ≤ i ∧ i < ((p.length : Nat) : Int) := ⟨h0, hlt'⟩
      have hi : i.toNat < p.length := by omega
      have hat : atK3 p i = p[i.toNat] := by
        have h1 := atL_get (d := (dfR 3 : Ins)) (xs := p) hin
        have h2 : p[i.toNat]? = some p[i.toNat] := by simp [hi]
        exact Option.some.inj (h1.symm.trans h2)
      have hx := hc (p[i.toNat]) (List.getElem_mem hi)
      have hs := sumA_nn (p := p.take i.toNat) fun y hy => (hc y (List.mem_of_mem_take hy)).2.1
      have htl : (p.take i.toNat).length ≤ 32 := by rw [List.length_take]; omega
      have e1 : wi (i + 1) = i + 1 := wi_id (rg_lit (by omega))
      have e2 : wi (sumA (p.take i.toNat) + (p[i.toNat]).a) = sumA (p.take i.toNat) + (p[i.toNat]).a := wi_id (rg_lit (by omega))
      refine Good.guard hin fun _ => ?_
      refine Good.ite (fun _ => Good.guard hin fun _ => Good.ite (fun _ => Good.guard hin fun _ => ?_) fun hq => absurd (show 0 < (atK3 p i).a by rw [hat]; omega) hq) fun hq => absurd (show (atK3 p i).op = 0 by rw [hat]; exact hx.1) hq
      show Good (self (wi (sumA (p.take i.toNat) + (atK3 p i).a), wi (i + 1), ())) _
      rw [hat, e1, e2]
      refine ih _ ⟨⟨by show 0 ≤ i + 1; omega, by show i + 1 ≤ _; omega⟩, ?_⟩ (by show ((p.length : Int) - (i + 1)).toNat < ((p.length : Int) - i).toNat; omega)
      show sumA (p.take i.toNat) + (p[i.toNat]).a = sumA (p.take (i + 1).toNat)
      rw [show (i + 1).toNat = i.toNat + 1 by omega, sumA_take hi]
    · have hge' : ¬ i < ((p.length : Nat) : Int) := hge
      show sumA (p.take i.toNat) = sumA p
      rw [List.take_of_length_le (by omega)]
  obtain ⟨⟨⟨o1, ⟨⟩⟩, ⟨⟩⟩, e, ho⟩ := hg
  rw [e]
  simp only at ho
  rw [ho]
theorem runR0 : runnerRun 0 0 = some ((MV.run R0, ()), ()) := rfl
theorem count_eq (m : MemV) : memoryMemoryCount m = some ((m.count, ()), (m, ())) := rfl
theorem tail_true {p : List Ins} (hc : Comp p) (hl : p.length ≤ 32) : tailC p = some ((true, ()), ()) := by
  have hs := sumA_nn fun x hx => (hc x hx).2.1
  have hr : remA p 0 0 = sumA p := by unfold remA; rw [if_pos rfl]; rfl
  have hal : workstealmatchAlone (EQ p 0 0) (.run R0) 5000 = some ((0, 0, sumA p + 2, ()), (EF2 p, .run REnd, ())) := by
    rw [alone_unf]
    have := alone_run hc hl 18446744073709551616 0 0 0 (Nat.zero_le _) ⟨by decide, by decide⟩ (fun h => absurd rfl h) (by decide) (by rw [hr]; omega) (by rw [hr]; omega)
    rw [hr] at this
    rw [show ((0 : Nat) : Int) = 0 from rfl] at this
    rw [this, obind]
    show some ((0, 0, 0 + sumA p + 2, ()), (EF2 p, MV.run REnd, ())) = _
    rw [Int.zero_add]
  have e1 : wi (sumA p + 2) = sumA p + 2 := wi_id (rg_lit (by omega))
  have c0 : ¬ (!true) = true := by decide
  unfold tailC
  simp only [house_eq, begun_eq (comp_valid hc hl), obind, awake25, if_neg c0, count_eq, runR0, envB_eq]
  have he : ({ EQ p 0 0 with m := (EQ p 0 0).m } : EnvP) = EQ p 0 0 := rfl
  have hx : workstealmatchAlone ⟨(EQ p 0 0).c, (EQ p 0 0).l, (EQ p 0 0).m, (EQ p 0 0).k, (EQ p 0 0).recs, (EQ p 0 0).evs⟩ (.run R0) 5000 = some ((0, 0, sumA p + 2, ()), (EF2 p, .run REnd, ())) := hal
  rw [hx]
  simp only [obind, weight_comp hc hl, if_true, e1]
  refine Eq.trans (b := some ((true, ()), ())) ?_ rfl
  kernel_rfl
theorem computes_true {y : List Int} (h : ∀ x ∈ y, 0 ≤ x ∧ x ≤ 255) : worksteallaw25RunnerComputes y = some ((true, ()), ()) := by
  rw [comp_unf]
  by_cases hl : 32 < ((y.length : Nat) : Int)
  · rw [if_pos hl]
  · rw [if_neg hl]
    obtain ⟨z, hz, hp⟩ := build_good (y := y) (by omega)
    rw [hz, obind, hp]
    refine tail_true (fun x hx => ?_) (by rw [List.length_map]; omega)
    obtain ⟨b, hb, rfl⟩ := List.mem_map.1 hx
    exact insB_ok (h b hb)
end Go.Proofs.YtgiagoeoifgliaaGreat
