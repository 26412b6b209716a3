/- abw in the evaluator's form. A worker alone with ready tasks in its deques: the tasks are laid into the deques. The law WorkerRuns answers true. -/
import Derived.Test.YtlcelajkhklkbaaGreatWcao
import Derived.Test.YtlcelajkhklkbaaGreatWcaq
set_option linter.all false
namespace Go.Proofs.YtlcelajkhklkbaaGreat
section
open Go Go.RowKit
set_option maxRecDepth 100000
variable [Tb]
noncomputable def ac0 (y0 : Cfg) : Option ((Int × Unit) × (Unit)) :=
 some ((wi ((wi ((wi (4 + y0.heap)) + y0.classes)) + (wi (2 * y0.workers))), ()), (()))
noncomputable abbrev acy : Con SR1 := ⟨45, [.val 13], [.sh sI_], fun x => ac0 x.1⟩
theorem adw : CO Tryz.prog acy := aaq aap Tryz.func45 [] trivial [] trivial (fun _ => []) [] fun x => by kernel_rfl
noncomputable def adj (y0 : Int) (y1 : Int) (y2 : Int) (y3 : Int) : Option ((Int × Unit) × (Unit)) :=
 if y1 < 0 then
  some (((-1), ()), (()))
 else
 if y2 ≤ y1 then
  some (((-1), ()), (()))
 else
 some ((wi (y0 + (wi (y1 * y3))), ()), (()))
noncomputable abbrev acH : Con SR1 := ⟨49, [.sh sI_, .sh sI_, .sh sI_, .sh sI_], [.sh sI_], fun x => adj x.1 x.2.1 x.2.2.1 x.2.2.2.1⟩
theorem adH : CO Tryz.prog acH := aaq aap Tryz.func49 [] trivial [] trivial (fun _ => []) [] fun x => by kernel_rfl
noncomputable def afb (y0 : Cfg) (y1 : Int) (y2 : Int) : Option ((Int × Unit) × (Unit)) :=
 (ac0 y0).bind fun r1 =>
 if y0.tasks = y0.tasks then
  if y0.deque = y0.deque then
   if y0.levels = y0.levels then
   if y0.workers = y0.workers then
   (adj (wi (r1.1.1 + (wi ((wi (y0.workers * y0.levels)) * (wi (2 + y0.deque)))))) y1 y0.tasks 5).bind fun r2 =>
   if r2.1.1 < 0 then
   some (((-1), ()), (()))
   else
   some ((wi (r2.1.1 + y2), ()), (()))
   else none
   else none
  else none
 else none
noncomputable abbrev aeq : Con SR1 := ⟨34, [.val 13, .sh sI_, .sh sI_], [.sh sI_], fun x => afb x.1 x.2.1 x.2.2.1⟩
theorem agJ : CO Tryz.prog aeq := aaq aap Tryz.func34 [acy, acH] ⟨adw, adH, trivial⟩ [] trivial (fun _ => []) [] fun x => by kernel_rfl
noncomputable def adi (y0 : Cfg) (y1 : Int) : Option ((Int × Unit) × (Unit)) :=
 (afb y0 y1 0).bind fun r1 =>
 some ((r1.1.1, ()), (()))
noncomputable abbrev ad8 : Con SR1 := ⟨16, [.val 13, .sh sI_], [.sh sI_], fun x => adi x.1 x.2.1⟩
theorem agB : CO Tryz.prog ad8 := aaq aap Tryz.func16 [aeq] ⟨agJ, trivial⟩ [] trivial (fun _ => []) [] fun x => by kernel_rfl
noncomputable def acR (y0 : (WorkerV MV)) : Option ((List Int × Unit) × ((WorkerV MV) × Unit)) :=
 if y0.line ≠ 7 then
  some (([], ()), (y0, ()))
 else
 (af3 y0.inside).bind fun r1 =>
 some ((r1.1.1, ()), (({ y0 with inside := r1.2.1 } : (WorkerV MV)), ()))
noncomputable abbrev aeM : Con SR1 := ⟨30, [.ref 30], [.sh (.row 1)], fun x => acR x.1⟩
theorem ahJ : CO Tryz.prog aeM := aaq aap Tryz.func30 [af2] ⟨amb, trivial⟩ [] trivial (fun _ => []) [] fun x => by kernel_rfl
noncomputable def adk  : Option ((Bool × Unit) × (Unit)) :=
 (anw ([])).bind fun r1 =>
 (adS r1.1.1).bind fun r2 =>
 (akZ 0).bind fun r3 =>
 if r2.1.2.1 ≠ 0 then
  some ((false, ()), (()))
 else
 (aaI r3.1.1).bind fun r4 =>
 if r4.1.1 ≠ 0 then
  some ((false, ()), (()))
 else
 (lpF (σ := Int × EnvP × (WorkerV MV) × Unit) (β := (Int × EnvP × (WorkerV MV) × Unit) ⊕ ((Bool × Unit) × (Unit))) (fun self7 x5 =>
  if x5.1 < 6 then
   (aat x5.2.2.1 x5.2.1).bind fun r8 =>
   if r8.1.1 = true then
   Option.map Sum.inr (
   some ((false, ()), (()))
   )
   else
   (aaI r8.2.1).bind fun r9 =>
   if (decide (r9.1.1 = 3)) ≠ (decide (x5.1 = 5)) then
   Option.map Sum.inr (
   some ((false, ()), (()))
   )
   else
   self7 (wi (x5.1 + 1), r8.2.2.1, r9.2.1, ())
  else
  some (Sum.inl (x5.1, x5.2.1, x5.2.2.1, ()))
 ) 18446744073709551616 (0, r2.1.1, r4.2.1, ())).bind fun z6 => match z6 with
 | .inr o10 => some o10
 | .inl z6 =>
 if ((z6.2.1.evs.length : Nat) : Int) = 1 then
  if 0 ≤ (0 : Int) ∧ (0 : Int) < ((z6.2.1.evs.length : Nat) : Int) then
   some ((decide (((an3 z6.2.1.evs 0).kind) = 16 ∧ ((an3 z6.2.1.evs 0).worker) = 0 ∧ ((an3 z6.2.1.evs 0).task) = 0 ∧ ((an3 z6.2.1.evs 0).other) = 0 ∧ ((an3 z6.2.1.evs 0).level) = 0 ∧ True), ()), (()))
  else none
 else
 some ((false, ()), (()))
noncomputable abbrev aea : Con SR1 := ⟨23, [], [.sh .b], fun x => adk ⟩
theorem agD : CO Tryz.prog aea := aaq aap Tryz.func23 [alD, ag9, ah5, ac2, adx] ⟨amE, ai1, aj5, aeb, aeK, trivial⟩ [] trivial (fun _ => []) [(6, .loopR [.rg 4 sI_, .rg 1 (.own 27), .rg 3 (.own 30)] 18446744073709551616 0)] fun x => by kernel_rfl
noncomputable def ach (y0 : Cfg) (y1 : Int) (y2 : Int) : Option ((QV × Unit) × (Unit)) :=
 if y1 < 0 then
  some (((⟨(-1), (-1), (-1), 0⟩ : QV), ()), (()))
 else
 if y0.workers ≤ y1 then
  some (((⟨(-1), (-1), (-1), 0⟩ : QV), ()), (()))
 else
 if y2 < 0 then
  some (((⟨(-1), (-1), (-1), 0⟩ : QV), ()), (()))
 else
 if y0.levels ≤ y2 then
  some (((⟨(-1), (-1), (-1), 0⟩ : QV), ()), (()))
 else
 (ac0 y0).bind fun r1 =>
 if y0.deque = y0.deque then
  if y0.levels = y0.levels then
   some (((⟨wi (r1.1.1 + (wi ((wi ((wi (y1 * y0.levels)) + y2)) * (wi (2 + y0.deque))))), wi ((wi (r1.1.1 + (wi ((wi ((wi (y1 * y0.levels)) + y2)) * (wi (2 + y0.deque)))))) + 1), wi ((wi (r1.1.1 + (wi ((wi ((wi (y1 * y0.levels)) + y2)) * (wi (2 + y0.deque)))))) + 2), y0.deque⟩ : QV), ()), (()))
  else none
 else none
noncomputable abbrev ad9 : Con SR1 := ⟨24, [.val 13, .sh sI_, .sh sI_], [.val 14], fun x => ach x.1 x.2.1 x.2.2.1⟩
theorem agC : CO Tryz.prog ad9 := aaq aap Tryz.func24 [acy] ⟨adw, trivial⟩ [] trivial (fun _ => []) [] fun x => by kernel_rfl
noncomputable def acz (y0 : QV) (y1 : Int) : Option ((Int × Unit) × (Unit)) :=
 if y0.cap < 1 then
  some (((-1), ()), (()))
 else
 if (wu (y0.cap)) ≠ 0 then
  some ((wi (y0.ring + (wi ((Int.tmod y1 (wu (y0.cap)))))), ()), (()))
 else none
noncomputable abbrev aep : Con SR1 := ⟨26, [.val 14, .sh sU_], [.sh sI_], fun x => acz x.1 x.2.1⟩
theorem agI : CO Tryz.prog aep := aaq aap Tryz.func26 [] trivial [] trivial (fun _ => []) [] fun x => by kernel_rfl
noncomputable def ac1 (y0 : Cfg) (y1 : Int) : Option ((Int × Unit) × (Unit)) :=
 (adj (wi ((wi ((wi (4 + y0.heap)) + y0.classes)) + y0.workers)) y1 y0.workers 1).bind fun r1 =>
 some ((r1.1.1, ()), (()))
noncomputable abbrev adI : Con SR1 := ⟨28, [.val 13, .sh sI_], [.sh sI_], fun x => ac1 x.1 x.2.1⟩
theorem afW : CO Tryz.prog adI := aaq aap Tryz.func28 [acH] ⟨adH, trivial⟩ [] trivial (fun _ => []) [] fun x => by kernel_rfl
noncomputable def apm (c0 : Cfg) (l : List Int) (nn : Int) (self7 : Int × EnvP × Unit → Option (Int × EnvP × Unit)) (x5 : Int × EnvP × Unit) : Option (Int × EnvP × Unit) :=
  if x5.1 < nn then
   if 0 ≤ x5.1 ∧ x5.1 < ((l.length : Nat) : Int) then
   (ach c0 0 (wi ((Int.tmod (ahQ l x5.1) 4)))).bind fun r8 =>
   ((
   if r8.1.1.bottom < 0 then
   some (0, x5.2.1, ())
   else
   if ((x5.2.1.m.cells.length : Nat) : Int) ≤ r8.1.1.bottom then
   some (0, x5.2.1, ())
   else
   if 0 ≤ r8.1.1.bottom ∧ r8.1.1.bottom < ((x5.2.1.m.cells.length : Nat) : Int) then
   some (aeG x5.2.1.m.cells r8.1.1.bottom, x5.2.1, ())
   else none
   ) : Option (Int × EnvP × Unit)).bind fun z9 =>
   (acz r8.1.1 z9.1).bind fun r10 =>
   (aa4 z9.2.1.m r10.1.1 (wu (x5.1))).bind fun r11 =>
   (aa4 r11.2.1 r8.1.1.bottom (wu (z9.1 + 1))).bind fun r12 =>
   if 0 ≤ wu (wi ((Int.tmod (ahQ l x5.1) 4))) then
   (ac1 c0 0).bind fun r13 =>
   (pOr r12.2.1 r13.1.1 (wu (1 * 2 ^ min (wu (wi ((Int.tmod (ahQ l x5.1) 4))) : Int).toNat IntKind.u64.bits))).bind fun r14 =>
   (adi c0 x5.1).bind fun r15 =>
   (aa4 r14.2.1 r15.1.1 1).bind fun r16 =>
   self7 (wi (x5.1 + 1), ({ z9.2.1 with m := r16.2.1 } : EnvP), ())
   else none
   else none
  else
  some (x5.1, x5.2.1, ())
noncomputable def akK (self20 : Int × EnvP × (WorkerV MV) × Unit → Option ((Int × EnvP × (WorkerV MV) × Unit) ⊕ ((Bool × Unit) × (Unit)))) (x18 : Int × EnvP × (WorkerV MV) × Unit) : Option ((Int × EnvP × (WorkerV MV) × Unit) ⊕ ((Bool × Unit) × (Unit))) :=
  if x18.1 < 2000 then
   (aaI x18.2.2.1).bind fun r21 =>
   if r21.1.1 ≠ 3 then
   (aaI r21.2.1).bind fun r22 =>
   (acR r22.2.1).bind fun r23 =>
   if (decide (r22.1.1 = 2)) ≠ (decide (0 < ((r23.1.1.length : Nat) : Int))) then
   Option.map Sum.inr (
   some ((false, ()), (()))
   )
   else
   (aat r23.2.1 x18.2.1).bind fun r24 =>
   self20 (wi (x18.1 + 1), r24.2.2.1, r24.2.1, ())
   else
   some (Sum.inl (x18.1, x18.2.1, r21.2.1, ()))
  else
  some (Sum.inl (x18.1, x18.2.1, x18.2.2.1, ()))
noncomputable def amV (l : List Int) (nn : Int) (self28 : Int × Int × Int × EnvP × Unit → Option ((Int × Int × Int × EnvP × Unit) ⊕ ((Bool × Unit) × (Unit)))) (x26 : Int × Int × Int × EnvP × Unit) : Option ((Int × Int × Int × EnvP × Unit) ⊕ ((Bool × Unit) × (Unit))) :=
  if x26.2.2.1 < ((x26.2.2.2.1.evs.length : Nat) : Int) then
   if 0 ≤ x26.2.2.1 ∧ x26.2.2.1 < ((x26.2.2.2.1.evs.length : Nat) : Int) then
   if ((an3 x26.2.2.2.1.evs x26.2.2.1).kind) ≠ 5 then
   self28 (x26.1, x26.2.1, wi (x26.2.2.1 + 1), x26.2.2.2.1, ())
   else
   if 0 ≤ x26.2.2.1 ∧ x26.2.2.1 < ((x26.2.2.2.1.evs.length : Nat) : Int) then
   if ((an3 x26.2.2.2.1.evs x26.2.2.1).task) < 0 then
   Option.map Sum.inr (
   some ((false, ()), (()))
   )
   else
   if nn ≤ ((an3 x26.2.2.2.1.evs x26.2.2.1).task) then
   Option.map Sum.inr (
   some ((false, ()), (()))
   )
   else
   if 0 ≤ (an3 x26.2.2.2.1.evs x26.2.2.1).task ∧ (an3 x26.2.2.2.1.evs x26.2.2.1).task < ((l.length : Nat) : Int) then
   if 0 < x26.2.1 then
   if 0 ≤ x26.1 ∧ x26.1 < ((l.length : Nat) : Int) then
   if (wi ((Int.tmod (ahQ l x26.1) 4))) < (wi ((Int.tmod (ahQ l ((an3 x26.2.2.2.1.evs x26.2.2.1).task)) 4))) then
   Option.map Sum.inr (
   some ((false, ()), (()))
   )
   else
   if 0 ≤ x26.1 ∧ x26.1 < ((l.length : Nat) : Int) then
   if (wi ((Int.tmod (ahQ l ((an3 x26.2.2.2.1.evs x26.2.2.1).task)) 4))) = (wi ((Int.tmod (ahQ l x26.1) 4))) then
   if x26.1 < ((an3 x26.2.2.2.1.evs x26.2.2.1).task) then
   Option.map Sum.inr (
   some ((false, ()), (()))
   )
   else
   self28 ((an3 x26.2.2.2.1.evs x26.2.2.1).task, wi (x26.2.1 + 1), wi (x26.2.2.1 + 1), x26.2.2.2.1, ())
   else
   self28 ((an3 x26.2.2.2.1.evs x26.2.2.1).task, wi (x26.2.1 + 1), wi (x26.2.2.1 + 1), x26.2.2.2.1, ())
   else none
   else none
   else
   self28 ((an3 x26.2.2.2.1.evs x26.2.2.1).task, wi (x26.2.1 + 1), wi (x26.2.2.1 + 1), x26.2.2.2.1, ())
   else none
   else none
   else none
  else
  some (Sum.inl (x26.1, x26.2.1, x26.2.2.1, x26.2.2.2.1, ()))
noncomputable def abw (y0 : List Int) : Option ((Bool × Unit) × (Unit)) :=
 (anw ([])).bind fun r1 =>
 (adS ({ r1.1.1 with levels := 4, tasks := 12, deque := 12 } : Cfg)).bind fun r2 =>
 (akZ 0).bind fun r3 =>
 (adk).bind fun r4 =>
 if (!r4.1.1) = true then
  some ((false, ()), (()))
 else
 if r2.1.2.1 ≠ 0 then
  some ((false, ()), (()))
 else
 (lpF (apm ({ r1.1.1 with levels := 4, tasks := 12, deque := 12 } : Cfg) y0 (if 12 < ((y0.length : Nat) : Int) then 12 else ((y0.length : Nat) : Int))) 18446744073709551616 (0, r2.1.1, ())).bind fun z6 =>
 (aa4 z6.2.1.m 0 (wu ((if 12 < ((y0.length : Nat) : Int) then 12 else ((y0.length : Nat) : Int))))).bind fun r17 =>
 (lpF (akK) 18446744073709551616 (0, ({ z6.2.1 with m := r17.2.1 } : EnvP), r3.1.1, ())).bind fun z19 => match z19 with
 | .inr o25 => some o25
 | .inl z19 =>
 (lpF (amV y0 (if 12 < ((y0.length : Nat) : Int) then 12 else ((y0.length : Nat) : Int))) 18446744073709551616 (0, 0, 0, z19.2.1, ())).bind fun z27 => match z27 with
 | .inr o29 => some o29
 | .inl z27 =>
 if z27.2.1 = (if 12 < ((y0.length : Nat) : Int) then 12 else ((y0.length : Nat) : Int)) then
  (aaI z19.2.2.1).bind fun r30 =>
  some ((decide (r30.1.1 = 3), ()), (()))
 else
 some ((false, ()), (()))
noncomputable abbrev ae9 : Con SR1 := ⟨5, [.sh (.ro 17)], [.sh .b], fun x => abw x.1⟩
noncomputable def aeI : List (Nat × Func) := [(15, Tryz.f15)]
theorem aeJ : CO Tryz.prog ae9 := aaq aap Tryz.func5 [alD, ag9, ah5, aea, ad9, aep, acW, adI, asQ, ad8, ac2, aeM, adx] ⟨amE, ai1, aj5, agD, agC, agI, act, afW, aqN, agB, aeb, ahJ, aeK, trivial⟩ aeI ⟨Tryz.func15, trivial⟩ (fun _ => []) [(9, .loop [.rg 8 sI_, .ob 13 27] 18446744073709551616 0), (27, .loopR [.rg 13 sI_, .rg 14 sI_, .rg 15 sI_, .ob 1000004 27] 18446744073709551616 4), (14, .cut [.rg 11 sU_, .ob 13 27] [0, 10, 11, 19, 24]), (20, .loopR [.rg 12 sI_, .rg 4 (.own 27), .rg 6 (.own 30)] 18446744073709551616 2)] fun x => by kernel_rfl
end
section
open Go Go.RowKit
set_option maxRecDepth 1000000
variable [Tb]
theorem aha {n : Nat} {lv : Nat → Nat} {v : Nat} : Lq (n + 1) lv v = Lq n lv v ++ (if lv n = v then [n] else []) := by
  unfold Lq
  rw [List.range_succ, List.filter_append]
  congr 1
  by_cases h : lv n = v
  · rw [if_pos h, List.filter_cons_of_pos (by simpa using h)]; rfl
  · rw [if_neg h, List.filter_cons_of_neg (by simpa using h)]; rfl
theorem avo {n : Nat} {lv : Nat → Nat} {v : Nat} : (Lq n lv v).length ≤ n := by
  have := List.length_filter_le (fun t => lv t == v) (List.range n)
  rw [List.length_range] at this
  exact this
theorem awd {lv : Nat → Nat} : ∀ {n : Nat}, (∀ t, t < n → lv t < 4) → ah8 (fun v => (Lq n lv v).length) = n
  | 0, _ => rfl
  | n + 1, h => by
    have ih := awd (n := n) fun t ht => h t (by omega)
    have h4 := h n (by omega)
    show (Lq (n + 1) lv 0).length + (Lq (n + 1) lv 1).length + (Lq (n + 1) lv 2).length + (Lq (n + 1) lv 3).length = n + 1
    have ih : (Lq n lv 0).length + (Lq n lv 1).length + (Lq n lv 2).length + (Lq n lv 3).length = n := ih
    rw [aha, aha, aha, aha, List.length_append, List.length_append, List.length_append, List.length_append]
    generalize lv n = h at h4 ⊢
    rcases h with _ | _ | _ | _ | h
    · show _ + 1 + (_ + 0) + (_ + 0) + (_ + 0) = _; omega
    · show _ + 0 + (_ + 1) + (_ + 0) + (_ + 0) = _; omega
    · show _ + 0 + (_ + 0) + (_ + 1) + (_ + 0) = _; omega
    · show _ + 0 + (_ + 0) + (_ + 0) + (_ + 1) = _; omega
    · exact absurd h4 (by omega)
structure SI (t : Nat) (lv : Nat → Nat) (e : EnvP) : Prop where
  len : e.m.cells.length = 124
  c : e.c = arh
  l : e.l = akf
  rl : e.recs.length = 12
  g2 : e.gt 2 = 0
  bm : ∃ b : Nat, b < 16 ∧ e.gt 7 = (b : Int) ∧ ∀ v, v < 4 → Lq t lv v ≠ [] → an2 b v = true
  tp : ∀ v : Nat, v < 4 → e.gt (8 + 14 * v) = 0
  bo : ∀ v : Nat, v < 4 → e.gt (9 + 14 * v) = ((Lq t lv v).length : Int)
  rg : ∀ v i u : Nat, v < 4 → (Lq t lv v)[i]? = some u → e.gt (10 + 14 * v + i) = (u : Int)
  st : ∀ u : Nat, u < t → e.gt (64 + 5 * u) = 1
  jn : ∀ u : Nat, u < 12 → e.gt (66 + 5 * u) = 0 ∧ e.rc u = auk
  ev : e.evs = []
section
variable {t : Nat} {lv : Nat → Nat} {e : EnvP}
theorem aA5 {k1 k2 k3 k4 a1 a2 a3 a4 x1 x2 x3 x4 A : Int} (hl : e.m.cells.length = 124) (h1 : 0 ≤ a1 ∧ a1 < 124) (h2 : 0 ≤ a2 ∧ a2 < 124) (h3 : 0 ≤ a3 ∧ a3 < 124) (h4 : 0 ≤ a4 ∧ a4 < 124) :
    ((((e.pt k1 a1 x1).pt k2 a2 x2).pt k3 a3 x3).pt k4 a4 x4).gt A = if A = a4 then x4 else if A = a3 then x3 else if A = a2 then x2 else if A = a1 then x1 else e.gt A := by
  rw [gtP (by rw [ajD, ajD, ajD, hl]; exact h4), gtP (by rw [ajD, ajD, hl]; exact h3), gtP (by rw [ajD, hl]; exact h2), gtP (by rw [hl]; exact h1)]
theorem azK {k a v : Int} : (e.pt k a v).c = e.c := rfl
theorem azJ {k a v : Int} : (e.pt k a v).l = e.l := rfl
theorem ang {k a v : Int} : (e.pt k a v).recs = e.recs := rfl
theorem aqH {k a v : Int} : (e.pt k a v).evs = e.evs := rfl
theorem au1 {k a v u : Int} : (e.pt k a v).rc u = e.rc u := rfl
theorem awS (h : SI t lv e) (ht : t < 12) {w b : Nat} (hw : lv t = w) (h4 : w < 4) (hb : (Lq t lv w).length = b) {y : Int} (hy : y = orU (e.gt 7) (wu (1 * 2 ^ min (w : Int).toNat IntKind.u64.bits))) :
    SI (t + 1) lv ((((e.pt 2 (10 + 14 * w + b) (t : Int)).pt 2 (9 + 14 * w) ((b : Int) + 1)).pt 4 7 y).pt 2 (64 + 5 * t) 1) := by
  have hbt : b ≤ t := by rw [← hb]; exact avo
  have g := fun A => aA5 (e := e) (k1 := 2) (k2 := 2) (k3 := 4) (k4 := 2) (a1 := 10 + 14 * (w : Int) + b) (a2 := 9 + 14 * (w : Int)) (a3 := 7) (a4 := 64 + 5 * (t : Int)) (x1 := (t : Int)) (x2 := (b : Int) + 1) (x3 := y) (x4 := 1) (A := A) h.len (by omega) (by omega) (by omega) (by omega)
  refine ⟨by rw [ajD, ajD, ajD, ajD]; exact h.len, by rw [azK, azK, azK, azK]; exact h.c, by rw [azJ, azJ, azJ, azJ]; exact h.l, by rw [ang, ang, ang, ang]; exact h.rl, ?_, ?_, fun v hv => ?_, fun v hv => ?_, fun v i u hv hu => ?_, fun u hu => ?_, fun u hu => ⟨?_, by rw [au1, au1, au1, au1]; exact (h.jn u hu).2⟩, by rw [aqH, aqH, aqH, aqH]; exact h.ev⟩
  · rw [g, if_neg (by omega), if_neg (by omega), if_neg (by omega), if_neg (by omega)]; exact h.g2
  · obtain ⟨b0, b1, b2, b3⟩ := h.bm
    obtain ⟨b', c1, c2, c3, c4⟩ := ayP b0 w b1 h4
    refine ⟨b', c2, ?_, fun v hv hne => ?_⟩
    · rw [g, if_neg (by omega), if_pos rfl, hy, b2, c1]
    · by_cases hvw : v = w
      · subst hvw; exact c3
      · rw [aha, if_neg (by omega), List.append_nil] at hne
        exact c4 v hv (b3 v hv hne)
  · rw [g, if_neg (by omega), if_neg (by omega), if_neg (by omega), if_neg (by omega)]; exact h.tp v hv
  · rw [g, if_neg (by omega), if_neg (by omega)]
    by_cases hvw : v = w
    · subst hvw
      rw [if_pos rfl, aha, if_pos hw, List.length_append, hb]; rfl
    · rw [if_neg (by omega), if_neg (by omega), aha, if_neg (by omega), List.append_nil]; exact h.bo v hv
  · rw [aha] at hu
    have hi : i < (Lq t lv v ++ (if lv t = v then [t] else [])).length := (List.getElem?_eq_some_iff.1 hu).1
    have hlen := avo (n := t) (lv := lv) (v := v)
    rw [List.length_append] at hi
    by_cases hvw : v = w
    · subst hvw
      rw [if_pos hw] at hu hi
      have hi : i < (Lq t lv v).length + 1 := hi
      rw [g, if_neg (by omega), if_neg (by omega), if_neg (by omega)]
      by_cases hib : i = b
      · rw [hib, List.getElem?_append_right (by omega), hb, Nat.sub_self] at hu
        obtain rfl : t = u := Option.some.inj hu
        rw [if_pos (by omega)]
      · rw [if_neg (by omega)]
        rw [List.getElem?_append_left (by omega)] at hu
        exact h.rg v i u hv hu
    · rw [if_neg (by omega), List.append_nil] at hu
      rw [if_neg (by omega)] at hi
      have hi : i < (Lq t lv v).length + 0 := hi
      rw [g, if_neg (by omega), if_neg (by omega), if_neg (by omega), if_neg (by omega)]
      exact h.rg v i u hv hu
  · rw [g]
    by_cases hut : u = t
    · subst hut; rw [if_pos rfl]
    · rw [if_neg (by omega), if_neg (by omega), if_neg (by omega), if_neg (by omega)]; exact h.st u (by omega)
  · rw [g, if_neg (by omega), if_neg (by omega), if_neg (by omega), if_neg (by omega)]; exact (h.jn u hu).1
theorem az4 {n : Nat} (h : SI n lv e) (hn : n ≤ 12) {x : Int} : ∃ b, WI n lv (fun v => (Lq n lv v).length) (fun _ => 0) (fun v => (Lq n lv v).length) b (e.pt 2 0 x) := by
  obtain ⟨b, b1, b2, b3⟩ := h.bm
  refine ⟨b, ⟨?_, fun v hv => ⟨by show _ = 0 + _; omega, by show 0 ≤ 1; omega, fun _ => rfl⟩, ⟨b1, fun v hv hr => b3 v hv (List.length_pos_iff.1 hr)⟩, fun v _ => Nat.le_refl _⟩⟩
  have hw : WM n lv (fun v => (Lq n lv v).length) (fun _ => 0) (fun v => (Lq n lv v).length) b e :=
    ⟨h.len, h.c, h.l, h.rl, h.g2, b2, h.tp, h.bo, fun v i u hv _ hu => h.rg v i u hv hu, fun u ⟨v, i, _, _, k3⟩ => by
      have := (atc k3).1
      exact ⟨h.st u this, h.jn u (by omega)⟩, fun v _ => Nat.le_trans avo hn⟩
  exact hw.pt hn (by decide) (by decide) (by rw [if_neg (by decide)]) (fun v hv => by rw [if_neg (by omega)]) (fun v hv => by rw [if_neg (by omega)]) (fun v i hv hi => by omega) (fun u _ => by omega)
end
theorem arB {h : Nat} (hh : h < 4) : ach arh 0 (h : Int) = some ((qW h, ()), ()) := by
  rcases h with _ | _ | _ | _ | h
  all_goals first | exact absurd hh (by omega) | kernel_rfl
theorem asA {h i : Nat} (hh : h < 4) (hi : i < 12) : acz (qW h) (i : Int) = some ((10 + 14 * (h : Int) + i, ()), ()) := by
  have e1 : wu (12 : Int) = 12 := by kernel_rfl
  unfold acz qW
  show (if (12 : Int) < 1 then _ else if wu 12 ≠ 0 then some ((wi ((10 + 14 * (h : Int)) + wi (Int.tmod (i : Int) (wu 12))), ()), ()) else none) = _
  rw [if_neg (by decide), e1, if_pos (by decide), Int.tmod_eq_of_lt (by omega) (by omega), adm (x := (i : Int)) (abN (by omega)), adm (abN (by omega))]
theorem aqb : ac1 arh 0 = some ((7, ()), ()) := by kernel_rfl
theorem aru {t : Nat} (ht : t < 12) : adi arh (t : Int) = some ((64 + 5 * (t : Int), ()), ()) := by
  rcases t with _ | _ | _ | _ | _ | _ | _ | _ | _ | _ | _ | _ | t
  all_goals first | exact absurd ht (by omega) | kernel_rfl
def lvl (l : List Int) (t : Nat) : Nat := (Int.tmod (ahQ l (t : Int)) 4).toNat
theorem aq0 {l : List Int} (hl : ∀ x ∈ l, 0 ≤ x ∧ x ≤ 255) {t : Nat} (ht : t < l.length) : wi (Int.tmod (ahQ l (t : Int)) 4) = (lvl l t : Int) ∧ lvl l t < 4 := by
  have hb := hl _ (azE (d := dfR 17) (xs := l) (i := (t : Int)) ⟨by omega, Int.ofNat_lt.2 ht⟩)
  have h1 := awv (a := ahQ l (t : Int)) (b := 4) (by decide) hb.1
  unfold lvl
  rw [adm (abN (by omega))]
  omega
theorem aAQ {e : EnvP} {a : Int} (h : 0 ≤ a ∧ a < (e.m.cells.length : Int)) : aeG e.m.cells a = e.gt a := by
  show _ = e.m.gt a
  unfold MemV.gt
  rw [if_pos h]
theorem auP {l : List Int} (hl : ∀ x ∈ l, 0 ≤ x ∧ x ≤ 255) {n : Nat} (hn : n ≤ 12) (hn2 : n ≤ l.length) {e : EnvP} (h : SI 0 (lvl l) e) : acG (lpF (apm arh l (n : Int)) 18446744073709551616 (0, e, ())) fun z => SI n (lvl l) z.2.1 := by
  refine ajQ (fun x => ∃ t : Nat, x.1 = (t : Int) ∧ t ≤ n ∧ SI t (lvl l) x.2.1) (fun x => ((n : Int) - x.1).toNat) (fun self x ⟨t, q0, q1, q2⟩ ih => ?_) _ _ ⟨0, rfl, Nat.zero_le _, h⟩ (by show ((n : Int) - 0).toNat < _; omega)
  obtain ⟨i, e, u⟩ := x
  obtain rfl : i = (t : Int) := q0
  have q2 : SI t (lvl l) e := q2
  unfold apm
  refine acG.ite (fun h1 => ?_) fun h1 => .some_ (by
    have : ¬ (t : Int) < (n : Int) := h1
    obtain rfl : t = n := by omega
    exact q2)
  have h1 : (t : Int) < (n : Int) := h1
  have htl : t < l.length := by omega
  obtain ⟨l1, l2⟩ := aq0 hl htl
  refine acG.guard ⟨by show (0 : Int) ≤ (t : Int); omega, by show (t : Int) < ((l.length : Nat) : Int); omega⟩ fun _ => ?_
  show acG ((ach arh 0 (wi (Int.tmod (ahQ l (t : Int)) 4))).bind _) _
  rw [l1]
  generalize hw : lvl l t = w at l2
  rw [arB l2, adF]
  obtain ⟨b, hb⟩ : ∃ b, (Lq t (lvl l) w).length = b := ⟨_, rfl⟩
  have hbt : b ≤ t := by rw [← hb]; exact avo
  have hin : 0 ≤ 9 + 14 * (w : Int) ∧ 9 + 14 * (w : Int) < (e.m.cells.length : Int) := by rw [q2.len]; omega
  refine acG.bind (P := fun z => z = ((b : Int), e, ())) ?_ fun z hz => ?_
  · refine acG.ite (fun k => absurd k (by show ¬ 9 + 14 * (w : Int) < 0; omega)) fun _ => acG.ite (fun k => absurd k (by show ¬ ((e.m.cells.length : Nat) : Int) ≤ 9 + 14 * (w : Int); omega)) fun _ => acG.guard hin fun _ => .some_ ?_
    show (aeG e.m.cells (9 + 14 * (w : Int)), e, ()) = _
    rw [aAQ hin, q2.bo w l2, hb]
  · subst hz
    dsimp only
    rw [asA l2 (by omega), adF, aa7, adF, aa7, adF]
    have w1 : wu (t : Int) = (t : Int) := wuN (by omega)
    have w2 : wu ((b : Int) + 1) = (b : Int) + 1 := wuN (by omega)
    have w3 : wu (w : Int) = (w : Int) := wuN (by omega)
    rw [w3]
    refine acG.guard (by omega) fun _ => ?_
    rw [aqb, adF, aoB, adF, aru (by omega), adF, aa7, adF]
    dsimp only
    rw [w1, w2]
    have e1 : wi ((t : Int) + 1) = ((t + 1 : Nat) : Int) := (adm (abN (by omega))).trans (by omega)
    rw [e1]
    have hs := awS q2 (by omega) hw l2 hb (y := orU (e.gt 7) (wu (1 * 2 ^ min (w : Int).toNat IntKind.u64.bits))) rfl
    refine ih _ ⟨t + 1, rfl, by omega, ?_⟩ (by show ((n : Int) - ((t + 1 : Nat) : Int)).toNat < ((n : Int) - (t : Int)).toNat; omega)
    have g7 : ((e.pt 2 (10 + 14 * (w : Int) + b) (t : Int)).pt 2 (9 + 14 * (w : Int)) ((b : Int) + 1)).gt 7 = e.gt 7 := by
      rw [gtP (by rw [ajD]; exact hin), if_neg (by omega), gtP (by rw [q2.len]; omega), if_neg (by omega)]
    rw [← g7] at hs
    exact hs
theorem auO (l : List Int) : SI 0 (lvl l) (avG arh) := by
  refine ⟨by kernel_rfl, rfl, rfl, by kernel_rfl, by kernel_rfl, ⟨0, by decide, by kernel_rfl, fun v _ h => absurd rfl h⟩, fun v hv => ?_, fun v hv => ?_, fun v i u _ hu => (by cases hu), fun u hu => absurd hu (Nat.not_lt_zero _), fun u hu => ?_, rfl⟩
  · rcases v with _ | _ | _ | _ | v
    all_goals first | exact absurd hv (by omega) | kernel_rfl
  · show _ = (0 : Int)
    rcases v with _ | _ | _ | _ | v
    all_goals first | exact absurd hv (by omega) | kernel_rfl
  · rcases u with _ | _ | _ | _ | _ | _ | _ | _ | _ | _ | _ | _ | u
    all_goals first | exact absurd hu (by omega) | exact ⟨by kernel_rfl, by kernel_rfl⟩
section
variable {n : Nat} {lv : Nat → Nat} {e : EnvP} {k : WorkS} {μ : Nat}
theorem ayJ (H : PH n lv k.c e μ) : e.c = arh ∧ e.l = akf := by
  obtain ⟨cu, vi, lw, x0, c⟩ := k
  have H : PH n lv c e μ := H
  cases H with
  | top i o => exact ⟨i.m.c, i.m.l⟩
  | again i o => exact ⟨i.m.c, i.m.l⟩
  | look i o _ _ _ => exact ⟨i.m.c, i.m.l⟩
  | look2 i o _ _ _ => exact ⟨i.m.c, i.m.l⟩
  | res1 i o _ _ _ => exact ⟨i.m.c, i.m.l⟩
  | res2 i o _ _ => exact ⟨i.m.c, i.m.l⟩
  | res3 i o _ _ => exact ⟨i.m.c, i.m.l⟩
  | p3 p _ _ => exact ⟨p.w.c, p.w.l⟩
  | p4 p _ _ => exact ⟨p.w.c, p.w.l⟩
  | p5 p _ _ => exact ⟨p.w.c, p.w.l⟩
  | p6 p _ _ => exact ⟨p.w.c, p.w.l⟩
  | p7 p _ => exact ⟨p.w.c, p.w.l⟩
  | p8 p _ _ => exact ⟨p.w.c, p.w.l⟩
  | claim i _ _ => exact ⟨i.m.c, i.m.l⟩
  | run i _ _ _ _ _ => exact ⟨i.m.c, i.m.l⟩
  | f2 i _ _ _ _ => exact ⟨i.m.c, i.m.l⟩
  | drn i _ _ => exact ⟨i.m.c, i.m.l⟩
  | s1 i _ _ => exact ⟨i.m.c, i.m.l⟩
  | s2 i _ _ => exact ⟨i.m.c, i.m.l⟩
  | s3 i _ _ => exact ⟨i.m.c, i.m.l⟩
  | s4 i _ _ => exact ⟨i.m.c, i.m.l⟩
  | s5 l _ => exact ⟨l.1, l.2.1⟩
def aA8 (w : WorkerV MV) : Prop := ∃ st s, aaI w = some ((st, ()), (w, ())) ∧ st ≠ 3 ∧ acR w = some ((s, ()), (w, ())) ∧ decide (st = 2) = decide (0 < ((s.length : Nat) : Int))
theorem axe (H : PH n lv k.c e μ) (hs : μ ≠ 0) : aA8 (aft akf 0 k) := by
  obtain ⟨cu, vi, lw, x0, c⟩ := k
  have H : PH n lv c e μ := H
  cases H with
  | top => exact ⟨0, [], by kernel_rfl, by decide, by kernel_rfl, rfl⟩
  | @run e r tp bo bm x => exact ⟨2, [(x : Int)], by kernel_rfl, by decide, by kernel_rfl, rfl⟩
  | @f2 e r tp bo bm x => exact ⟨2, [(x : Int)], by kernel_rfl, by decide, by kernel_rfl, rfl⟩
  | s5 => exact absurd rfl hs
  | _ => exact ⟨1, [], by kernel_rfl, by decide, by kernel_rfl, rfl⟩
theorem aoy (H : PH n lv k.c e 0) : aaI (aft akf 0 k) = some ((3, ()), (aft akf 0 k, ())) := by
  obtain ⟨cu, vi, lw, x0, c⟩ := k
  have H : PH n lv c e 0 := H
  generalize hμ : 0 = μ at H
  cases H with
  | s5 => show _ = _; kernel_rfl
  | _ => exact absurd hμ (by omega)
theorem aAa (H : PH n lv k.c e μ) {K : Nat} (hK : 1 ≤ K) {m : Int} : aue K m k := by
  obtain ⟨cu, vi, lw, x0, c⟩ := k
  have H : PH n lv c e μ := H
  cases H with
  | drn => exact (rfl : aoX.direct = false)
  | run => exact ⟨(by intro h; cases h), hK⟩
  | f2 => exact ⟨(by intro h; cases h), hK⟩
  | _ => trivial
theorem ayK (H : PH n lv k.c e 0) : ∃ last : Nat, ans n lv e.evs 0 0 = some ((last : Int), (n : Int)) := by
  obtain ⟨cu, vi, lw, x0, c⟩ := k
  have H : PH n lv c e 0 := H
  generalize hμ : 0 = μ at H
  cases H with
  | s5 _ o =>
    obtain ⟨last, cnt, h1, h2, _⟩ := o
    have h2 : cnt + (0 + 0 + 0 + 0) = n := h2
    exact ⟨last, by rw [h1, show cnt = n by omega]⟩
  | _ => exact absurd hμ (by omega)
end
theorem auV {n : Nat} {lv : Nat → Nat} (hn : n ≤ 12) {e : EnvP} {k : WorkS} {μ : Nat} (hK : EOk 1 e) (H : PH n lv k.c e μ) (hμ : μ ≤ 500) : acG (lpF akK 18446744073709551616 (0, e, aft akf 0 k, ())) fun z => ∃ y k', z = .inl y ∧ y.2.2.1 = aft akf 0 k' ∧ PH n lv k'.c y.2.1 0 ∧ y.2.1.evs.length ≤ 1000000 := by
  refine ajQ (fun x => 0 ≤ x.1 ∧ ∃ (k' : WorkS) (μ K : Nat), x.2.2.1 = aft akf 0 k' ∧ PH n lv k'.c x.2.1 μ ∧ EOk K x.2.1 ∧ 1 ≤ K ∧ (K : Int) ≤ 1 + 3 * x.1 ∧ x.1 + (μ : Int) ≤ 500) (fun x => (600 - x.1).toNat) (fun self x ⟨q0, k, μ, K, q1, q2, q3, q4, q5, q6⟩ ih => ?_) _ _ ⟨Int.le_refl _, k, μ, 1, rfl, H, hK, Nat.le_refl _, by show (1 : Int) ≤ 1 + 3 * 0; decide, by show (0 : Int) + μ ≤ 500; omega⟩ (by show (600 - (0 : Int)).toNat < _; decide)
  obtain ⟨i, e, w, u⟩ := x
  have q0 : 0 ≤ i := q0
  have q5 : (K : Int) ≤ 1 + 3 * i := q5
  have q6 : i + μ ≤ 500 := q6
  obtain rfl : w = aft akf 0 k := q1
  have q2 : PH n lv k.c e μ := q2
  have q3 : EOk K e := q3
  unfold akK
  refine acG.ite (fun _ => ?_) fun h => absurd (show i < 2000 by omega) h
  show acG ((aaI (aft akf 0 k)).bind _) _
  by_cases hz : μ = 0
  · subst hz
    rw [aoy q2, adF]
    refine acG.ite (fun h => absurd rfl h) fun _ => .some_ ⟨_, k, rfl, rfl, q2, by have := q3.ev; show e.evs.length ≤ 1000000; omega⟩
  · obtain ⟨st, s, s1, s2, s3, s4⟩ := axe q2 hz
    rw [s1, adF]
    refine acG.ite (fun _ => ?_) fun h => absurd s2 h
    show acG ((aaI (aft akf 0 k)).bind _) _
    rw [s1, adF]
    show acG ((acR (aft akf 0 k)).bind _) _
    rw [s3, adF]
    refine acG.ite (fun h => absurd s4 h) fun _ => ?_
    show acG ((aat (aft akf 0 k) e).bind _) _
    have hl := (ayJ q2).2
    have h1 := aus (w := 0) q3 (by omega) k (aAa q2 q4)
    rw [hl] at h1
    have h1 : aat (aft akf 0 k) e = some ((false, ()), (aft akf 0 (aaY 0 e k).1, (aaY 0 e k).2, ())) := h1
    rw [h1, adF]
    obtain ⟨μ', m1, m2⟩ := axd hn q2 hz
    have e1 : wi (i + 1) = i + 1 := adm (abN (by omega))
    show acG (self (wi (i + 1), (aaY 0 e k).2, aft akf 0 (aaY 0 e k).1, ())) _
    rw [e1]
    exact ih _ ⟨by show 0 ≤ i + 1; omega, (aaY 0 e k).1, μ', K + 2 + 1, rfl, m2, q3.step (awp q3 k), by omega, by show ((K + 2 + 1 : Nat) : Int) ≤ 1 + 3 * (i + 1); omega, by show i + 1 + μ' ≤ 500; omega⟩ (by show (600 - (i + 1)).toNat < (600 - i).toNat; omega)
theorem ava {l : List Int} (hl : ∀ x ∈ l, 0 ≤ x ∧ x ≤ 255) {n : Nat} (hn2 : n ≤ l.length) {e : EnvP} (he : e.evs.length ≤ 1000000) {last : Nat} (h : ans n (lvl l) e.evs 0 0 = some ((last : Int), (n : Int))) : acG (lpF (amV l (n : Int)) 18446744073709551616 (0, 0, 0, e, ())) fun z => ∃ y, z = .inl y ∧ y.2.1 = (n : Int) := by
  refine ajQ (fun x => ∃ i : Nat, x.2.2.1 = (i : Int) ∧ i ≤ e.evs.length ∧ x.2.2.2.1 = e ∧ ans n (lvl l) (e.evs.drop i) x.1 x.2.1 = some ((last : Int), (n : Int)) ∧ (0 ≤ x.2.1 ∧ x.2.1 ≤ (i : Int)) ∧ (0 < x.2.1 → 0 ≤ x.1 ∧ x.1 < (n : Int))) (fun x => ((e.evs.length : Int) - x.2.2.1).toNat) (fun self x ⟨i, q0, q1, q2, q3, q4, q5⟩ ih => ?_) _ _ ⟨0, rfl, Nat.zero_le _, rfl, (by show ans n (lvl l) (e.evs.drop 0) 0 0 = _; rw [List.drop_zero]; exact h), ⟨Int.le_refl _, Int.le_refl _⟩, fun k => absurd k (by show ¬ (0 : Int) < 0; decide)⟩ (by show ((e.evs.length : Int) - 0).toNat < _; omega)
  obtain ⟨a, c, j, e', u⟩ := x
  obtain rfl : j = (i : Int) := q0
  obtain rfl : e' = e := q2
  have q3 : ans n (lvl l) (e'.evs.drop i) a c = some ((last : Int), (n : Int)) := q3
  have q4 : 0 ≤ c ∧ c ≤ (i : Int) := q4
  have q5 : 0 < c → 0 ≤ a ∧ a < (n : Int) := q5
  unfold amV
  refine acG.ite (fun h1 => ?_) fun h1 => .some_ ⟨_, rfl, ?_⟩
  · have hlt : i < e'.evs.length := Int.ofNat_lt.1 h1
    have hat : an3 e'.evs (i : Int) = e'.evs[i] := by
      have a1 := adV (d := (dfR 2 : Ev)) (xs := e'.evs) (i := (i : Int)) ⟨by omega, Int.ofNat_lt.2 hlt⟩
      have a2 : e'.evs[((i : Nat) : Int).toNat]? = some e'.evs[i] := by simp [hlt]
      exact Option.some.inj (a1.symm.trans a2)
    have hin : 0 ≤ (i : Int) ∧ (i : Int) < ((e'.evs.length : Nat) : Int) := ⟨by omega, Int.ofNat_lt.2 hlt⟩
    rw [List.drop_eq_getElem_cons hlt] at q3
    generalize hv : e'.evs[i] = v at q3 hat
    have e1 : wi ((i : Int) + 1) = ((i + 1 : Nat) : Int) := (adm (abN (by omega))).trans (by omega)
    have e2 : wi (c + 1) = c + 1 := adm (abN (by omega))
    unfold ans at q3
    refine acG.guard hin fun _ => ?_
    show acG (if (an3 e'.evs (i : Int)).kind ≠ 5 then self (a, c, wi ((i : Int) + 1), e', ()) else _) _
    rw [hat, e1]
    refine acG.ite (fun k5 => ?_) fun k5 => ?_
    · rw [if_pos k5] at q3
      exact ih _ ⟨i + 1, rfl, hlt, rfl, q3, ⟨q4.1, by show c ≤ ((i + 1 : Nat) : Int); omega⟩, q5⟩ (by show ((e'.evs.length : Int) - ((i + 1 : Nat) : Int)).toNat < ((e'.evs.length : Int) - (i : Int)).toNat; omega)
    · rw [if_neg k5] at q3
      by_cases hb : v.task < 0 ∨ (n : Int) ≤ v.task
      · rw [if_pos hb] at q3; cases q3
      rw [if_neg hb] at q3
      by_cases ho : 0 < c ∧ (lvl l a.toNat < lvl l v.task.toNat ∨ (lvl l v.task.toNat = lvl l a.toNat ∧ a < v.task))
      · rw [if_pos ho] at q3; cases q3
      rw [if_neg ho] at q3
      have hgo : acG (self (v.task, c + 1, ((i + 1 : Nat) : Int), e', ())) fun z => ∃ y, z = .inl y ∧ y.2.1 = (n : Int) :=
        ih _ ⟨i + 1, rfl, hlt, rfl, q3, ⟨by show 0 ≤ c + 1; omega, by show c + 1 ≤ ((i + 1 : Nat) : Int); omega⟩, fun _ => ⟨by show 0 ≤ v.task; omega, by show v.task < (n : Int); omega⟩⟩ (by show ((e'.evs.length : Int) - ((i + 1 : Nat) : Int)).toNat < ((e'.evs.length : Int) - (i : Int)).toNat; omega)
      refine acG.guard hin fun _ => ?_
      refine acG.ite (fun k => absurd k (by omega)) fun _ => ?_
      refine acG.ite (fun k => absurd k (by show ¬ (n : Int) ≤ v.task; omega)) fun _ => ?_
      have hvl : 0 ≤ v.task ∧ v.task < ((l.length : Nat) : Int) := by omega
      refine acG.guard hvl fun _ => ?_
      rw [e2]
      refine acG.ite (fun hc => ?_) fun _ => hgo
      have hc : 0 < c := hc
      obtain ⟨a1, a2⟩ := q5 hc
      have hal : 0 ≤ a ∧ a < ((l.length : Nat) : Int) := by omega
      refine acG.guard hal fun _ => ?_
      have l1 : wi (Int.tmod (ahQ l a) 4) = (lvl l a.toNat : Int) := by
        have := (aq0 hl (t := a.toNat) (by omega)).1
        rwa [Int.toNat_of_nonneg a1] at this
      have l2 : wi (Int.tmod (ahQ l v.task) 4) = (lvl l v.task.toNat : Int) := by
        have := (aq0 hl (t := v.task.toNat) (by omega)).1
        rwa [Int.toNat_of_nonneg (by omega)] at this
      show acG (if wi (Int.tmod (ahQ l a) 4) < wi (Int.tmod (ahQ l v.task) 4) then _ else _) _
      rw [l1, l2]
      refine acG.ite (fun k => absurd k (by omega)) fun k1 => ?_
      refine acG.guard hal fun _ => ?_
      refine acG.ite (fun k => acG.ite (fun k2 => absurd k2 (by show ¬ a < v.task; omega)) fun _ => hgo) fun _ => hgo
  · have : ¬ (i : Int) < ((e'.evs.length : Nat) : Int) := h1
    have hil : i = e'.evs.length := by omega
    rw [hil, List.drop_length] at q3
    have q3 : some (a, c) = some ((last : Int), (n : Int)) := q3
    cases q3
    rfl
theorem apl : adk = some ((true, ()), ()) := by kernel_rfl
theorem apk : ae7 arh = 0 := by decide +kernel
theorem ar0 {l : List Int} (hl : ∀ x ∈ l, 0 ≤ x ∧ x ≤ 255) : acG (abw l) fun o => o.1.1 = true := by
  obtain ⟨n, hn⟩ : ∃ n : Nat, (if 12 < ((l.length : Nat) : Int) then 12 else ((l.length : Nat) : Int)) = (n : Int) ∧ n ≤ 12 ∧ n ≤ l.length := by
    by_cases h : 12 < ((l.length : Nat) : Int)
    · exact ⟨12, by rw [if_pos h]; rfl, by omega, by omega⟩
    · exact ⟨l.length, by rw [if_neg h], by omega, by omega⟩
  obtain ⟨hn0, hn1, hn2⟩ := hn
  unfold abw
  rw [hn0, aAM, adF]
  show acG ((adS arh).bind _) _
  rw [azd apk, adF]
  show acG (Option.bind (some ((aft akf 0 ⟨0, 0, 0, 0, .top⟩, ()), ())) _) _
  rw [adF, apl, adF]
  refine acG.ite (fun k => by cases k) fun _ => acG.ite (fun k => absurd rfl k) fun _ => ?_
  refine (auP hl hn1 hn2 (auO l)).bind fun z hz => ?_
  rw [aa7, adF]
  show acG ((lpF akK 18446744073709551616 (0, z.2.1.pt 2 0 (wu (n : Int)), aft akf 0 ⟨0, 0, 0, 0, .top⟩, ())).bind _) _
  obtain ⟨b, hb⟩ := az4 hz hn1 (x := wu (n : Int))
  have hs4 : ah8 (fun v => (Lq n (lvl l) v).length) = n := awd fun t ht => (aq0 hl (by omega)).2
  have hev : (z.2.1.pt 2 0 (wu (n : Int))).evs = [] := hz.ev
  have hEO : EO n (lvl l) (fun v => (Lq n (lvl l) v).length) (z.2.1.pt 2 0 (wu (n : Int))).evs := by
    rw [hev]
    exact ⟨0, 0, rfl, by rw [hs4]; omega, .inl rfl⟩
  have hp : al8 b ≤ 4 := by unfold al8; omega
  have hK : EOk 1 (z.2.1.pt 2 0 (wu (n : Int))) := by
    have hm := hb.m
    refine ⟨by rw [hm.l]; exact ⟨by show (0 : Int) ≤ 12; decide, by show (12 : Int) ≤ 65535; decide⟩, by rw [hm.l, hm.rl]; rfl, by rw [hm.c, hm.rl]; rfl, by rw [hm.c]; decide, by rw [hev]; exact Nat.zero_le _, fun r hr => ?_⟩
    obtain ⟨i, hi, rfl⟩ := List.getElem_of_mem hr
    have hi12 : i < 12 := by rw [← hz.rl]; exact hi
    have h1 := (hz.jn i hi12).2
    have a1 : aab z.2.1.recs (i : Int) = z.2.1.recs[i]'hi := by
      have a1 := adV (d := (dfR 26 : RecP)) (xs := z.2.1.recs) (i := (i : Int)) ⟨by omega, Int.ofNat_lt.2 hi⟩
      have a2 : z.2.1.recs[((i : Nat) : Int).toNat]? = some (z.2.1.recs[i]'hi) := by
        rw [Int.toNat_natCast]; exact List.getElem?_eq_getElem hi
      exact Option.some.inj (a1.symm.trans a2)
    have h2 : z.2.1.recs[i]'hi = auk := a1.symm.trans h1
    show (z.2.1.recs[i]'hi).kids.length ≤ 1
    rw [h2]
    decide
  refine (auV hn1 (k := ⟨0, 0, 0, 0, .top⟩) hK (.top hb hEO) (by rw [hs4]; omega)).bind fun y hy => ?_
  obtain ⟨y, k', rfl, y1, y2, y3⟩ := hy
  obtain ⟨last, o1⟩ := ayK y2
  have hst := aoy y2
  show acG ((lpF (amV l (n : Int)) 18446744073709551616 (0, 0, 0, y.2.1, ())).bind _) _
  refine (ava hl hn2 y3 o1).bind fun u hu => ?_
  obtain ⟨u, rfl, hu⟩ := hu
  refine acG.guard hu fun _ => ?_
  show acG ((aaI y.2.2.1).bind _) _
  rw [y1, hst, adF]
  exact .some_ rfl
end
end Go.Proofs.YtlcelajkhklkbaaGreat
