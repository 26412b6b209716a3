/- What EngineDone calls, in the evaluator's form. An engine's loops, Done and Events by names. An engine's loops, for any invariant of its machines. An engine's loops, for any invariant of its machines and every number of workers. An engine that is done: nobody starts or ends anything any more. -/
import Derived.Test.YtclaldommncdbaaGreatDqan
import Derived.Test.YtclaldommncdbaaGreatDqar
set_option linter.all false
namespace Go.Proofs.YtclaldommncdbaaGreat
section
open Go Go.RowKit
set_option maxRecDepth 100000
variable [Tb]
noncomputable def anA (b : List Int) : Option ((List EntV × Unit) × (Unit)) :=
 (lpF (σ := List EntV × Int × Unit) (β := List EntV × Int × Unit) (fun self3 x1 =>
  if (wi (x1.2.1 + 1)) < ((b.length : Nat) : Int) then
   if ((x1.1.length : Nat) : Int) < 65536 then
   if 0 ≤ x1.2.1 ∧ x1.2.1 < ((b.length : Nat) : Int) then
   if 0 ≤ wi (x1.2.1 + 1) ∧ wi (x1.2.1 + 1) < ((b.length : Nat) : Int) then
   if (aij b (wi (x1.2.1 + 1))) = (aij b (wi (x1.2.1 + 1))) then
   if (aij b x1.2.1) = (aij b x1.2.1) then
   if (Int.tmod (wi (aij b x1.2.1)) 4) = 1 then
   if (((x1.1.length + ([(⟨(Int.tmod (wi (aij b x1.2.1)) 4), 0⟩ : EntV)] : List EntV).length : Nat)) : Int) < 1000000000000 then
   self3 (x1.1 ++ ([(⟨(Int.tmod (wi (aij b x1.2.1)) 4), 0⟩ : EntV)]), wi (x1.2.1 + 2), ())
   else none
   else
   if (Int.tmod (wi (aij b x1.2.1)) 4) = 3 then
   if (((x1.1.length + ([(⟨(Int.tmod (wi (aij b x1.2.1)) 4), 0⟩ : EntV)] : List EntV).length : Nat)) : Int) < 1000000000000 then
   self3 (x1.1 ++ ([(⟨(Int.tmod (wi (aij b x1.2.1)) 4), 0⟩ : EntV)]), wi (x1.2.1 + 2), ())
   else none
   else
   if (((x1.1.length + ([(⟨(Int.tmod (wi (aij b x1.2.1)) 4), wi (aij b (wi (x1.2.1 + 1)))⟩ : EntV)] : List EntV).length : Nat)) : Int) < 1000000000000 then
   self3 (x1.1 ++ ([(⟨(Int.tmod (wi (aij b x1.2.1)) 4), wi (aij b (wi (x1.2.1 + 1)))⟩ : EntV)]), wi (x1.2.1 + 2), ())
   else none
   else none
   else none
   else none
   else none
   else
   some (x1.1, x1.2.1, ())
  else
  some (x1.1, x1.2.1, ())
 ) 18446744073709551616 ([], 0, ())).bind fun z2 =>
 some ((z2.1, ()), (()))
noncomputable abbrev apG : Con SR1 := ⟨20, [.sh (.ro 17)], [.sh (.row 5)], fun x => anA x.1⟩
theorem atw : CO Tryz.prog apG := aal aak Tryz.func20 [] trivial [] trivial (fun _ => []) [(3, .loop [.rg 3 (.row 5), .rg 4 sI_] 18446744073709551616 0)] fun x => by kernel_rfl
noncomputable def ake (b : List Int) (n : Int) : Option ((List EntV × Unit) × (Unit)) :=
 (anA b).bind fun r1 =>
 if n < ((r1.1.1.length : Nat) : Int) then
  if 0 ≤ n ∧ n ≤ ((r1.1.1.length : Nat) : Int) then
   some ((r1.1.1.take (n : Int).toNat, ()), (()))
  else none
 else
 some ((r1.1.1, ()), (()))
noncomputable abbrev aiO : Con SR1 := ⟨7, [.sh (.ro 17), .sh sI_], [.sh (.row 5)], fun x => ake x.1 x.2.1⟩
theorem ajn : CO Tryz.prog aiO := aal aak Tryz.func7 [apG] ⟨atw, trivial⟩ [] trivial (fun _ => []) [] fun x => by kernel_rfl
noncomputable def adZ (y0 : Int) : Option ((EntV × Unit) × (Unit)) :=
 some (((⟨0, y0⟩ : EntV), ()), (()))
noncomputable abbrev aem : Con SR1 := ⟨21, [.sh sI_], [.val 5], fun x => adZ x.1⟩
theorem afJ : CO Tryz.prog aem := aal aak Tryz.func21 [] trivial [] trivial (fun _ => []) [] fun x => by kernel_rfl
noncomputable def aaB  : Option ((Bool × Unit) × (Unit)) :=
 (afG ([])).bind fun r1 =>
 (ad1 r1.1.1).bind fun r2 =>
 if r2.1.2.1 ≠ 0 then
  if r2.1.2.1 ≠ 0 then
   some ((false, ()), (()))
  else
  some ((false, ()), (()))
 else
 (afy r1.1.1).bind fun r3 =>
 if r1.1.1.workers = ((1 : Nat) : Int) then
  (ac8 0).bind fun r4 =>
  (lpF (σ := Int × EnvP × (WorkerV MV) × (ClientV MV) × (Int × List Int × Int × Int × Int × Int × Unit) × Unit) (β := (Int × EnvP × (WorkerV MV) × (ClientV MV) × (Int × List Int × Int × Int × Int × Int × Unit) × Unit) ⊕ ((Bool × Unit) × (Unit))) (fun self7 x5 =>
   if x5.1 < 7 then
   (aax x5.2.2.1).bind fun r8 =>
   if (decide (r8.1.1 = 3)) ≠ (decide (x5.1 = 6)) then
   Option.map Sum.inr (
   some ((false, ()), (()))
   )
   else
   (adZ 0).bind fun r9 =>
   (abc x5.2.1.m).bind fun r10 =>
   ((
   if r9.1.1.kind = 0 then
   (acV r9.1.1 2).bind fun r11 =>
   if r11.1.1 = ((1 : Nat) : Int) then
   (aap x5.2.2.2.1 ({ x5.2.1 with m := r10.2.1 } : EnvP)).bind fun r12 =>
   some (r12.2.2.1, r8.2.1, r12.2.1, (x5.2.2.2.2.1.1, x5.2.2.2.2.1.2.1, x5.2.2.2.2.1.2.2.1, x5.2.2.2.2.1.2.2.2.1, x5.2.2.2.2.1.2.2.2.2.1, x5.2.2.2.2.1.2.2.2.2.2.1, ()), ())
   else
   if r11.1.1 = ((0 : Nat) : Int) then
   (aag r8.2.1 ({ x5.2.1 with m := r10.2.1 } : EnvP)).bind fun r13 =>
   some (r13.2.2.1, r13.2.1, x5.2.2.2.1, (x5.2.2.2.2.1.1, x5.2.2.2.2.1.2.1, x5.2.2.2.2.1.2.2.1, x5.2.2.2.2.1.2.2.2.1, x5.2.2.2.2.1.2.2.2.2.1, x5.2.2.2.2.1.2.2.2.2.2.1, ()), ())
   else
   none
   else
   if r9.1.1.kind = 1 then
   (adC x5.2.1.k).bind fun r14 =>
   some (({ x5.2.1 with m := r10.2.1, k := r14.2.1 } : EnvP), r8.2.1, x5.2.2.2.1, (x5.2.2.2.2.1.1, x5.2.2.2.2.1.2.1, x5.2.2.2.2.1.2.2.1, x5.2.2.2.2.1.2.2.2.1, x5.2.2.2.2.1.2.2.2.2.1, x5.2.2.2.2.1.2.2.2.2.2.1, ()), ())
   else
   if r9.1.1.kind = 2 then
   (ad3 x5.2.1.k r9.1.1.value).bind fun r15 =>
   some (({ x5.2.1 with m := r10.2.1, k := r15.2.1 } : EnvP), r8.2.1, x5.2.2.2.1, (x5.2.2.2.2.1.1, x5.2.2.2.2.1.2.1, x5.2.2.2.2.1.2.2.1, x5.2.2.2.2.1.2.2.2.1, x5.2.2.2.2.1.2.2.2.2.1, x5.2.2.2.2.1.2.2.2.2.2.1, ()), ())
   else
   some (({ x5.2.1 with m := r10.2.1 } : EnvP), r8.2.1, x5.2.2.2.1, (x5.2.2.2.2.1.1, x5.2.2.2.2.1.2.1, x5.2.2.2.2.1.2.2.1, x5.2.2.2.2.1.2.2.2.1, x5.2.2.2.2.1.2.2.2.2.1, x5.2.2.2.2.1.2.2.2.2.2.1, ()), ())
   ) : Option (EnvP × (WorkerV MV) × (ClientV MV) × (Int × List Int × Int × Int × Int × Int × Unit) × Unit)).bind fun z16 =>
   (abc z16.1.m).bind fun r17 =>
   if r10.1.1 < r17.1.1 then
   (aek r17.2.1).bind fun r18 =>
   (lpF (σ := EnvP × (Int × List Int × Int × Int × Int × Int × Unit) × Unit) (β := EnvP × (Int × List Int × Int × Int × Int × Int × Unit) × Unit) (fun self21 x19 =>
   if ((x19.2.1.2.1.length : Nat) : Int) < ((x19.1.evs.length : Nat) : Int) then
   if (((x19.2.1.2.1.length + ([x19.2.1.1] : List Int).length : Nat)) : Int) < 1000000000000 then
   self21 (x19.1, (x19.2.1.1, x19.2.1.2.1 ++ ([x19.2.1.1]), x19.2.1.2.2.1, x19.2.1.2.2.2.1, x19.2.1.2.2.2.2.1, x19.2.1.2.2.2.2.2.1, ()), ())
   else none
   else
   some (x19.1, (x19.2.1.1, x19.2.1.2.1, x19.2.1.2.2.1, x19.2.1.2.2.2.1, x19.2.1.2.2.2.2.1, x19.2.1.2.2.2.2.2.1, ()), ())
   ) 18446744073709551616 (({ z16.1 with m := r18.2.1 } : EnvP), (z16.2.2.2.1.1, z16.2.2.2.1.2.1, r18.1.1.kind, r18.1.1.cell, r18.1.1.old, r18.1.1.new, ()), ())).bind fun z20 =>
   self7 (wi (x5.1 + 1), z20.1, z16.2.1, z16.2.2.1, (wi (z20.2.1.1 + 1), z20.2.1.2.1, z20.2.1.2.2.1, z20.2.1.2.2.2.1, z20.2.1.2.2.2.2.1, z20.2.1.2.2.2.2.2.1, ()), ())
   else
   (lpF (σ := EnvP × (Int × List Int × Int × Int × Int × Int × Unit) × Unit) (β := EnvP × (Int × List Int × Int × Int × Int × Int × Unit) × Unit) (fun self24 x22 =>
   if ((x22.2.1.2.1.length : Nat) : Int) < ((x22.1.evs.length : Nat) : Int) then
   if (((x22.2.1.2.1.length + ([x22.2.1.1] : List Int).length : Nat)) : Int) < 1000000000000 then
   self24 (x22.1, (x22.2.1.1, x22.2.1.2.1 ++ ([x22.2.1.1]), x22.2.1.2.2.1, x22.2.1.2.2.2.1, x22.2.1.2.2.2.2.1, x22.2.1.2.2.2.2.2.1, ()), ())
   else none
   else
   some (x22.1, (x22.2.1.1, x22.2.1.2.1, x22.2.1.2.2.1, x22.2.1.2.2.2.1, x22.2.1.2.2.2.2.1, x22.2.1.2.2.2.2.2.1, ()), ())
   ) 18446744073709551616 (({ z16.1 with m := r17.2.1 } : EnvP), (z16.2.2.2.1.1, z16.2.2.2.1.2.1, 0, 0, 0, 0, ()), ())).bind fun z23 =>
   self7 (wi (x5.1 + 1), z23.1, z16.2.1, z16.2.2.1, (wi (z23.2.1.1 + 1), z23.2.1.2.1, z23.2.1.2.2.1, z23.2.1.2.2.2.1, z23.2.1.2.2.2.2.1, z23.2.1.2.2.2.2.2.1, ()), ())
   else
   some (Sum.inl (x5.1, x5.2.1, x5.2.2.1, x5.2.2.2.1, (x5.2.2.2.2.1.1, x5.2.2.2.2.1.2.1, x5.2.2.2.2.1.2.2.1, x5.2.2.2.2.1.2.2.2.1, x5.2.2.2.2.1.2.2.2.2.1, x5.2.2.2.2.1.2.2.2.2.2.1, ()), ()))
  ) 18446744073709551616 (0, r2.1.1, r4.1.1, r3.1.1, (0, [], 0, 0, 0, 0, ()), ())).bind fun z6 => match z6 with
  | .inr o25 => some o25
  | .inl z6 =>
  (aaD z6.2.2.2.1).bind fun r26 =>
  if r26.1.1 ≠ 4 then
   some ((false, ()), (()))
  else
  (aax z6.2.2.1).bind fun r27 =>
  if r27.1.1 = 2 then
   some ((false, ()), (()))
  else
  if z6.2.1.l.workers = z6.2.1.l.workers then
   if z6.2.1.l.levels = z6.2.1.l.levels then
   if z6.2.1.l.classes = z6.2.1.l.classes then
   if z6.2.1.l.tasks = z6.2.1.l.tasks then
   if z6.2.1.l.deque = z6.2.1.l.deque then
   if z6.2.1.l.heap = z6.2.1.l.heap then
   if z6.2.1.l.sleepers = z6.2.1.l.sleepers then
   if z6.2.1.l.epochs = z6.2.1.l.epochs then
   if z6.2.1.l.bitmaps = z6.2.1.l.bitmaps then
   if z6.2.1.l.queues = z6.2.1.l.queues then
   if z6.2.1.l.table = z6.2.1.l.table then
   (lpF (σ := Int × MemV × Unit) (β := (Int × MemV × Unit) ⊕ ((Bool × Unit) × (Unit))) (fun self30 x28 =>
   if x28.1 < z6.2.1.c.tasks then
   (axw z6.2.1.l).bind fun r31 =>
   if r31.1.1 < 0 then
   if (wu (x28.1)) < 0 then
   (ade z6.2.1.l x28.1).bind fun r32 =>
   if r32.1.1 < 0 then
   Option.map Sum.inr (
   some ((false, ()), (()))
   )
   else
   if ((x28.2.1.cells.length : Nat) : Int) ≤ r32.1.1 then
   Option.map Sum.inr (
   some ((false, ()), (()))
   )
   else
   if 0 ≤ r32.1.1 ∧ r32.1.1 < ((x28.2.1.cells.length : Nat) : Int) then
   if (aeA x28.2.1.cells r32.1.1) ≠ 4 then
   Option.map Sum.inr (
   some ((false, ()), (()))
   )
   else
   self30 (wi (x28.1 + 1), x28.2.1, ())
   else none
   else
   some (Sum.inl (x28.1, x28.2.1, ()))
   else
   if ((x28.2.1.cells.length : Nat) : Int) ≤ r31.1.1 then
   if (wu (x28.1)) < 0 then
   (ade z6.2.1.l x28.1).bind fun r33 =>
   if r33.1.1 < 0 then
   Option.map Sum.inr (
   some ((false, ()), (()))
   )
   else
   if ((x28.2.1.cells.length : Nat) : Int) ≤ r33.1.1 then
   Option.map Sum.inr (
   some ((false, ()), (()))
   )
   else
   if 0 ≤ r33.1.1 ∧ r33.1.1 < ((x28.2.1.cells.length : Nat) : Int) then
   if (aeA x28.2.1.cells r33.1.1) ≠ 4 then
   Option.map Sum.inr (
   some ((false, ()), (()))
   )
   else
   self30 (wi (x28.1 + 1), x28.2.1, ())
   else none
   else
   some (Sum.inl (x28.1, x28.2.1, ()))
   else
   if 0 ≤ r31.1.1 ∧ r31.1.1 < ((x28.2.1.cells.length : Nat) : Int) then
   if (wu (x28.1)) < (aeA x28.2.1.cells r31.1.1) then
   (ade z6.2.1.l x28.1).bind fun r34 =>
   if r34.1.1 < 0 then
   Option.map Sum.inr (
   some ((false, ()), (()))
   )
   else
   if ((x28.2.1.cells.length : Nat) : Int) ≤ r34.1.1 then
   Option.map Sum.inr (
   some ((false, ()), (()))
   )
   else
   if 0 ≤ r34.1.1 ∧ r34.1.1 < ((x28.2.1.cells.length : Nat) : Int) then
   if (aeA x28.2.1.cells r34.1.1) ≠ 4 then
   Option.map Sum.inr (
   some ((false, ()), (()))
   )
   else
   self30 (wi (x28.1 + 1), x28.2.1, ())
   else none
   else
   some (Sum.inl (x28.1, x28.2.1, ()))
   else none
   else
   some (Sum.inl (x28.1, x28.2.1, ()))
   ) 18446744073709551616 (0, z6.2.1.m, ())).bind fun z29 => match z29 with
   | .inr o35 => some o35
   | .inl z29 =>
   (aax r27.2.1).bind fun r36 =>
   if r36.1.1 ≠ 0 then
   if r36.1.1 ≠ 3 then
   some ((false, ()), (()))
   else
   (aaD r26.2.1).bind fun r37 =>
   if r37.1.1 = 0 then
   (aaD r37.2.1).bind fun r38 =>
   if r38.1.1 = 4 then
   some ((decide (z6.2.2.2.2.1.1 = 7), ()), (()))
   else
   some ((false, ()), (()))
   else
   if r37.1.1 = 4 then
   (aaD r37.2.1).bind fun r39 =>
   if r39.1.1 = 4 then
   some ((decide (z6.2.2.2.2.1.1 = 7), ()), (()))
   else
   some ((false, ()), (()))
   else
   some ((false, ()), (()))
   else
   (aaD r26.2.1).bind fun r40 =>
   if r40.1.1 = 0 then
   (aaD r40.2.1).bind fun r41 =>
   if r41.1.1 = 4 then
   some ((decide (z6.2.2.2.2.1.1 = 7), ()), (()))
   else
   some ((false, ()), (()))
   else
   if r40.1.1 = 4 then
   (aaD r40.2.1).bind fun r42 =>
   if r42.1.1 = 4 then
   some ((decide (z6.2.2.2.2.1.1 = 7), ()), (()))
   else
   some ((false, ()), (()))
   else
   some ((false, ()), (()))
   else none
   else none
   else none
   else none
   else none
   else none
   else none
   else none
   else none
   else none
  else none
 else
 none
noncomputable abbrev ab0 : Con SR1 := ⟨10, [], [.sh .b], fun x => aaB ⟩
noncomputable def aic : List (Nat × Func) := [(22, Tryz.f22), (41, Tryz.f41), (13, Tryz.f13), (23, Tryz.f23), (15, Tryz.f15), (31, Tryz.f31), (50, Tryz.f50), (30, Tryz.f30), (32, Tryz.f32), (24, Tryz.f24), (25, Tryz.f25)]
theorem acL : CO Tryz.prog ab0 := aal aak Tryz.func10 [ahj, aew, ae4, aeW, abG, aem, abR, ac9, ach, ab7, acQ, adj, acd, abH, aka, adL] ⟨ahi, aeI, afx, afk, ab1, afJ, acp, adu, acI, acB, adi, adx, acE, ab5, ajj, adc, trivial⟩ aic ⟨Tryz.func22, Tryz.func41, Tryz.func13, Tryz.func23, Tryz.func15, Tryz.func31, Tryz.func50, Tryz.func30, Tryz.func32, Tryz.func24, Tryz.func25, trivial⟩ (fun f => (get [(22, [(6, .spl 22 [1] 2)]), (41, [(2, .unroll 2)]), (23, [(9, .cut [.ob 12 27, .ob 26 31, .ob 14 30, .cx 15 [.inr (.ptr 12 0), .inr (.sl 28), .inr (.ptr 14 0), .inr (.sl 54), .inl sI_, .inl (.row 1), .inl sI_, .inl sI_, .inl sU_, .inl sU_]] [9, 10, 60]), (12, .loop [.ob 12 27, .cx 15 [.inr (.ptr 12 0), .inr (.sl 28), .inr (.ptr 14 0), .inr (.sl 54), .inl sI_, .inl (.row 1), .inl sI_, .inl sI_, .inl sU_, .inl sU_]] 18446744073709551616 1)]), (15, [(6, .loopR [.rg 6 sI_, .ob 91 9] 18446744073709551616 0)]), (50, [(2, .unroll 2)]), (24, [(2, .unroll 2)])] f).getD []) [(5, .loopR [.rg 3 sI_, .ob 12 27, .ob 26 31, .ob 14 30, .cx 15 [.inr (.ptr 12 0), .inr (.sl 28), .inr (.ptr 14 0), .inr (.sl 54), .inl sI_, .inl (.row 1), .inl sI_, .inl sI_, .inl sU_, .inl sU_]] 18446744073709551616 0)] fun x => by kernel_rfl
noncomputable def adE (y0 : Int) (y1 : Int) : Option ((Int × Unit) × (Unit)) :=
 if y1 < 1 then
  some ((0, ()), (()))
 else
 if y1 ≠ 0 then
  if (Int.tmod y0 y1) < 0 then
   if y1 ≠ 0 then
   some ((wi ((Int.tmod y0 y1) + y1), ()), (()))
   else none
  else
  if y1 ≠ 0 then
   some (((Int.tmod y0 y1), ()), (()))
  else none
 else none
noncomputable abbrev afI : Con SR1 := ⟨52, [.sh sI_, .sh sI_], [.sh sI_], fun x => adE x.1 x.2.1⟩
theorem ain : CO Tryz.prog afI := aal aak Tryz.func52 [] trivial [] trivial (fun _ => []) [] fun x => by kernel_rfl
noncomputable def aaS (y0 : List Int) (y1 : Int) (y2 : Int) : Option ((Int × Unit) × (Unit)) :=
 if ((y0.length : Nat) : Int) = 0 then
  some ((0, ()), (()))
 else
 if ((y0.length : Nat) : Int) ≠ 0 then
  if 0 ≤ (Int.tmod y1 ((y0.length : Nat) : Int)) ∧ (Int.tmod y1 ((y0.length : Nat) : Int)) < ((y0.length : Nat) : Int) then
   if ((y0.length : Nat) : Int) ≠ 0 then
   if (wi (1 + (Int.tmod (wi (Int.tdiv y1 ((y0.length : Nat) : Int))) 7))) ≠ 0 then
   (adE (wi (Int.tdiv (aik y0 (Int.tmod y1 ((y0.length : Nat) : Int))) (wi (1 + (Int.tmod (wi (Int.tdiv y1 ((y0.length : Nat) : Int))) 7))))) y2).bind fun r1 =>
   some ((r1.1.1, ()), (()))
   else none
   else none
  else none
 else none
noncomputable abbrev afi : Con SR1 := ⟨36, [.sh (.ro 1), .sh sI_, .sh sI_], [.sh sI_], fun x => aaS x.1 x.2.1 x.2.2.1⟩
theorem aid : CO Tryz.prog afi := aal aak Tryz.func36 [afI] ⟨ain, trivial⟩ [] trivial (fun _ => []) [] fun x => by kernel_rfl
noncomputable def abO (y0 : List EntV) (y1 : EntV) (y2 : Int) : Option ((List EntV × Unit) × (Unit)) :=
 if 0 ≤ y2 ∧ y2 ≤ ((y0.length : Nat) : Int) then
  if (((([] : List EntV).length + (y0.take (y2 : Int).toNat).length : Nat)) : Int) < 1000000000000 then
   if ((((([]) ++ (y0.take (y2 : Int).toNat)).length + ([y1] : List EntV).length : Nat)) : Int) < 1000000000000 then
   if 0 ≤ y2 ∧ y2 ≤ ((y0.length : Nat) : Int) then
   if (((((([]) ++ (y0.take (y2 : Int).toNat)) ++ ([y1])).length + (y0.drop (y2 : Int).toNat).length : Nat)) : Int) < 1000000000000 then
   some ((((([]) ++ (y0.take (y2 : Int).toNat)) ++ ([y1])) ++ (y0.drop (y2 : Int).toNat), ()), (()))
   else none
   else none
   else none
  else none
 else none
noncomputable abbrev afj : Con SR1 := ⟨35, [.sh (.ro 5), .val 5, .sh sI_], [.sh (.row 5)], fun x => abO x.1 x.2.1 x.2.2.1⟩
theorem aie : CO Tryz.prog afj := aal aak Tryz.func35 [] trivial [] trivial (fun _ => []) [] fun x => by kernel_rfl
noncomputable def abz (y0 : List Int) (y1 : Int) (y2 : Int) : Option ((List EntV × Unit) × (Unit)) :=
 (lpF (σ := List EntV × Int × Unit) (β := List EntV × Int × Unit) (fun self3 x1 =>
  if x1.2.1 < y2 then
   (adZ x1.2.1).bind fun r4 =>
   (aaS y0 (wi (y1 + x1.2.1)) (wi (x1.2.1 + 1))).bind fun r5 =>
   (abO x1.1 r4.1.1 r5.1.1).bind fun r6 =>
   self3 (r6.1.1, wi (x1.2.1 + 1), ())
  else
  some (x1.1, x1.2.1, ())
 ) 18446744073709551616 ([], 0, ())).bind fun z2 =>
 (aaS y0 (wi (y1 + y2)) (wi (y2 + 1))).bind fun r7 =>
 (abO z2.1 (⟨1, 0⟩ : EntV) r7.1.1).bind fun r8 =>
 (aaS y0 (wi ((wi (y1 + y2)) + 1)) 3).bind fun r9 =>
 (lpF (σ := List EntV × Int × Unit) (β := List EntV × Int × Unit) (fun self12 x10 =>
  if 0 < x10.2.1 then
   (aaS y0 (wi ((wi (y1 + y2)) + x10.2.1)) y2).bind fun r13 =>
   (adZ r13.1.1).bind fun r14 =>
   (aaS y0 (wi (y1 + x10.2.1)) (wi (((x10.1.length : Nat) : Int) + 1))).bind fun r15 =>
   (abO x10.1 r14.1.1 r15.1.1).bind fun r16 =>
   self12 (r16.1.1, wi (x10.2.1 - 1), ())
  else
  some (x10.1, x10.2.1, ())
 ) 18446744073709551616 (r8.1.1, r9.1.1, ())).bind fun z11 =>
 some ((z11.1, ()), (()))
noncomputable abbrev aco : Con SR1 := ⟨17, [.sh (.ro 1), .sh sI_, .sh sI_], [.sh (.row 5)], fun x => abz x.1 x.2.1 x.2.2.1⟩
theorem acS : CO Tryz.prog aco := aal aak Tryz.func17 [aem, afi, afj] ⟨afJ, aid, aie, trivial⟩ [] trivial (fun _ => []) [(3, .loop [.rg 7 (.row 5), .rg 8 sI_] 18446744073709551616 0), (8, .loop [.rg 7 (.row 5), .rg 9 sI_] 18446744073709551616 2)] fun x => by kernel_rfl
abbrev ah0 := Int × List Int × Int × Int × Int × Int × Unit
noncomputable def aja {σ : Type} (c0 : Int) (env : EnvP) (eng : ah0) (self : EnvP → ah0 → Option σ) : Option σ :=
   (abc env.m).bind fun r22 =>
   if c0 < r22.1.1 then
   (aek r22.2.1).bind fun r23 =>
   (lpF (σ := EnvP × (Int × List Int × Int × Int × Int × Int × Unit) × Unit) (β := EnvP × (Int × List Int × Int × Int × Int × Int × Unit) × Unit) (fun self26 x24 =>
   if ((x24.2.1.2.1.length : Nat) : Int) < ((x24.1.evs.length : Nat) : Int) then
   if (((x24.2.1.2.1.length + ([x24.2.1.1] : List Int).length : Nat)) : Int) < 1000000000000 then
   self26 (x24.1, (x24.2.1.1, x24.2.1.2.1 ++ ([x24.2.1.1]), x24.2.1.2.2.1, x24.2.1.2.2.2.1, x24.2.1.2.2.2.2.1, x24.2.1.2.2.2.2.2.1, ()), ())
   else none
   else
   some (x24.1, x24.2.1, ())
   ) 18446744073709551616 (({ env with m := r23.2.1 } : EnvP), (eng.1, eng.2.1, r23.1.1.kind, r23.1.1.cell, r23.1.1.old, r23.1.1.new, ()), ())).bind fun z25 =>
   self z25.1 (wi (z25.2.1.1 + 1), z25.2.1.2.1, z25.2.1.2.2.1, z25.2.1.2.2.2.1, z25.2.1.2.2.2.2.1, z25.2.1.2.2.2.2.2.1, ())
   else
   (lpF (σ := EnvP × (Int × List Int × Int × Int × Int × Int × Unit) × Unit) (β := EnvP × (Int × List Int × Int × Int × Int × Int × Unit) × Unit) (fun self29 x27 =>
   if ((x27.2.1.2.1.length : Nat) : Int) < ((x27.1.evs.length : Nat) : Int) then
   if (((x27.2.1.2.1.length + ([x27.2.1.1] : List Int).length : Nat)) : Int) < 1000000000000 then
   self29 (x27.1, (x27.2.1.1, x27.2.1.2.1 ++ ([x27.2.1.1]), x27.2.1.2.2.1, x27.2.1.2.2.2.1, x27.2.1.2.2.2.2.1, x27.2.1.2.2.2.2.2.1, ()), ())
   else none
   else
   some (x27.1, x27.2.1, ())
   ) 18446744073709551616 (({ env with m := r22.2.1 } : EnvP), (eng.1, eng.2.1, 0, 0, 0, 0, ()), ())).bind fun z28 =>
   self z28.1 (wi (z28.2.1.1 + 1), z28.2.1.2.1, z28.2.1.2.2.1, z28.2.1.2.2.2.1, z28.2.1.2.2.2.2.1, z28.2.1.2.2.2.2.2.1, ())
abbrev aj1 := Int × EnvP × (WorkerV MV) × (ClientV MV) × (Int × List Int × Int × Int × Int × Int × Unit) × Unit
noncomputable def anY (l : List EntV) (x12 : aj1) (r15 : (Int × Unit) × (MemV × Unit)) :=
   ((
   if ((ap0 l x12.1).kind) = 0 then
   (acV (ap0 l x12.1) 2).bind fun r16 =>
   if r16.1.1 = ((1 : Nat) : Int) then
   (aap x12.2.2.2.1 ({ x12.2.1 with m := r15.2.1 } : EnvP)).bind fun r17 =>
   some (r17.2.2.1, x12.2.2.1, r17.2.1, x12.2.2.2.2.1, ())
   else
   if r16.1.1 = ((0 : Nat) : Int) then
   (aag x12.2.2.1 ({ x12.2.1 with m := r15.2.1 } : EnvP)).bind fun r18 =>
   some (r18.2.2.1, r18.2.1, x12.2.2.2.1, x12.2.2.2.2.1, ())
   else
   none
   else
   if ((ap0 l x12.1).kind) = 1 then
   (adC x12.2.1.k).bind fun r19 =>
   some (({ x12.2.1 with m := r15.2.1, k := r19.2.1 } : EnvP), x12.2.2.1, x12.2.2.2.1, x12.2.2.2.2.1, ())
   else
   if ((ap0 l x12.1).kind) = 2 then
   (ad3 x12.2.1.k ((ap0 l x12.1).value)).bind fun r20 =>
   some (({ x12.2.1 with m := r15.2.1, k := r20.2.1 } : EnvP), x12.2.2.1, x12.2.2.2.1, x12.2.2.2.2.1, ())
   else
   some (({ x12.2.1 with m := r15.2.1 } : EnvP), x12.2.2.1, x12.2.2.2.1, x12.2.2.2.2.1, ())
   ) : Option (EnvP × (WorkerV MV) × (ClientV MV) × (Int × List Int × Int × Int × Int × Int × Unit) × Unit))
noncomputable def akw (l : List EntV) (self14 : aj1 → Option (aj1)) (x12 : aj1) : Option (aj1) :=
 if x12.1 < ((l.length : Nat) : Int) then
  if 0 ≤ x12.1 ∧ x12.1 < ((l.length : Nat) : Int) then
   (abc x12.2.1.m).bind fun r15 =>
   (anY l x12 r15).bind fun z21 =>
   aja r15.1.1 z21.1 z21.2.2.2.1 (fun e g => self14 (wi (x12.1 + 1), e, z21.2.1, z21.2.2.1, g, ()))
  else none
 else
 some (x12.1, x12.2.1, x12.2.2.1, x12.2.2.2.1, x12.2.2.2.2.1, ())
abbrev aj0 := Int × EnvP × (WorkerV MV) × (WorkerV MV) × (ClientV MV) × (Int × List Int × Int × Int × Int × Int × Unit) × Unit
noncomputable def anX (l : List EntV) (x13 : aj0) (r16 : (Int × Unit) × (MemV × Unit)) :=
   ((
   if ((ap0 l x13.1).kind) = 0 then
   (acV (ap0 l x13.1) 3).bind fun r17 =>
   if r17.1.1 = ((2 : Nat) : Int) then
   (aap x13.2.2.2.2.1 ({ x13.2.1 with m := r16.2.1 } : EnvP)).bind fun r18 =>
   some (r18.2.2.1, x13.2.2.1, x13.2.2.2.1, r18.2.1, x13.2.2.2.2.2.1, ())
   else
   if r17.1.1 = ((1 : Nat) : Int) then
   (aag x13.2.2.2.1 ({ x13.2.1 with m := r16.2.1 } : EnvP)).bind fun r19 =>
   some (r19.2.2.1, x13.2.2.1, r19.2.1, x13.2.2.2.2.1, x13.2.2.2.2.2.1, ())
   else
   if r17.1.1 = ((0 : Nat) : Int) then
   (aag x13.2.2.1 ({ x13.2.1 with m := r16.2.1 } : EnvP)).bind fun r20 =>
   some (r20.2.2.1, r20.2.1, x13.2.2.2.1, x13.2.2.2.2.1, x13.2.2.2.2.2.1, ())
   else
   none
   else
   if ((ap0 l x13.1).kind) = 1 then
   (adC x13.2.1.k).bind fun r21 =>
   some (({ x13.2.1 with m := r16.2.1, k := r21.2.1 } : EnvP), x13.2.2.1, x13.2.2.2.1, x13.2.2.2.2.1, x13.2.2.2.2.2.1, ())
   else
   if ((ap0 l x13.1).kind) = 2 then
   (ad3 x13.2.1.k ((ap0 l x13.1).value)).bind fun r22 =>
   some (({ x13.2.1 with m := r16.2.1, k := r22.2.1 } : EnvP), x13.2.2.1, x13.2.2.2.1, x13.2.2.2.2.1, x13.2.2.2.2.2.1, ())
   else
   some (({ x13.2.1 with m := r16.2.1 } : EnvP), x13.2.2.1, x13.2.2.2.1, x13.2.2.2.2.1, x13.2.2.2.2.2.1, ())
   ) : Option (EnvP × (WorkerV MV) × (WorkerV MV) × (ClientV MV) × (Int × List Int × Int × Int × Int × Int × Unit) × Unit))
noncomputable def akv (l : List EntV) (self15 : aj0 → Option (aj0)) (x13 : aj0) : Option (aj0) :=
 if x13.1 < ((l.length : Nat) : Int) then
  if 0 ≤ x13.1 ∧ x13.1 < ((l.length : Nat) : Int) then
   (abc x13.2.1.m).bind fun r16 =>
   (anX l x13 r16).bind fun z23 =>
   aja r16.1.1 z23.1 z23.2.2.2.2.1 (fun e g => self15 (wi (x13.1 + 1), e, z23.2.1, z23.2.2.1, z23.2.2.2.1, g, ()))
  else none
 else
 some (x13.1, x13.2.1, x13.2.2.1, x13.2.2.2.1, x13.2.2.2.2.1, x13.2.2.2.2.2.1, ())
abbrev ajZ := Int × EnvP × (WorkerV MV) × (WorkerV MV) × (WorkerV MV) × (ClientV MV) × (Int × List Int × Int × Int × Int × Int × Unit) × Unit
noncomputable def anW (l : List EntV) (x14 : ajZ) (r17 : (Int × Unit) × (MemV × Unit)) :=
   ((
   if ((ap0 l x14.1).kind) = 0 then
   (acV (ap0 l x14.1) 4).bind fun r18 =>
   if r18.1.1 = ((3 : Nat) : Int) then
   (aap x14.2.2.2.2.2.1 ({ x14.2.1 with m := r17.2.1 } : EnvP)).bind fun r19 =>
   some (r19.2.2.1, x14.2.2.1, x14.2.2.2.1, x14.2.2.2.2.1, r19.2.1, x14.2.2.2.2.2.2.1, ())
   else
   if r18.1.1 = ((2 : Nat) : Int) then
   (aag x14.2.2.2.2.1 ({ x14.2.1 with m := r17.2.1 } : EnvP)).bind fun r20 =>
   some (r20.2.2.1, x14.2.2.1, x14.2.2.2.1, r20.2.1, x14.2.2.2.2.2.1, x14.2.2.2.2.2.2.1, ())
   else
   if r18.1.1 = ((1 : Nat) : Int) then
   (aag x14.2.2.2.1 ({ x14.2.1 with m := r17.2.1 } : EnvP)).bind fun r21 =>
   some (r21.2.2.1, x14.2.2.1, r21.2.1, x14.2.2.2.2.1, x14.2.2.2.2.2.1, x14.2.2.2.2.2.2.1, ())
   else
   if r18.1.1 = ((0 : Nat) : Int) then
   (aag x14.2.2.1 ({ x14.2.1 with m := r17.2.1 } : EnvP)).bind fun r22 =>
   some (r22.2.2.1, r22.2.1, x14.2.2.2.1, x14.2.2.2.2.1, x14.2.2.2.2.2.1, x14.2.2.2.2.2.2.1, ())
   else
   none
   else
   if ((ap0 l x14.1).kind) = 1 then
   (adC x14.2.1.k).bind fun r23 =>
   some (({ x14.2.1 with m := r17.2.1, k := r23.2.1 } : EnvP), x14.2.2.1, x14.2.2.2.1, x14.2.2.2.2.1, x14.2.2.2.2.2.1, x14.2.2.2.2.2.2.1, ())
   else
   if ((ap0 l x14.1).kind) = 2 then
   (ad3 x14.2.1.k ((ap0 l x14.1).value)).bind fun r24 =>
   some (({ x14.2.1 with m := r17.2.1, k := r24.2.1 } : EnvP), x14.2.2.1, x14.2.2.2.1, x14.2.2.2.2.1, x14.2.2.2.2.2.1, x14.2.2.2.2.2.2.1, ())
   else
   some (({ x14.2.1 with m := r17.2.1 } : EnvP), x14.2.2.1, x14.2.2.2.1, x14.2.2.2.2.1, x14.2.2.2.2.2.1, x14.2.2.2.2.2.2.1, ())
   ) : Option (EnvP × (WorkerV MV) × (WorkerV MV) × (WorkerV MV) × (ClientV MV) × (Int × List Int × Int × Int × Int × Int × Unit) × Unit))
noncomputable def aku (l : List EntV) (self16 : ajZ → Option (ajZ)) (x14 : ajZ) : Option (ajZ) :=
 if x14.1 < ((l.length : Nat) : Int) then
  if 0 ≤ x14.1 ∧ x14.1 < ((l.length : Nat) : Int) then
   (abc x14.2.1.m).bind fun r17 =>
   (anW l x14 r17).bind fun z25 =>
   aja r17.1.1 z25.1 z25.2.2.2.2.2.1 (fun e g => self16 (wi (x14.1 + 1), e, z25.2.1, z25.2.2.1, z25.2.2.2.1, z25.2.2.2.2.1, g, ()))
  else none
 else
 some (x14.1, x14.2.1, x14.2.2.1, x14.2.2.2.1, x14.2.2.2.2.1, x14.2.2.2.2.2.1, x14.2.2.2.2.2.2.1, ())
abbrev ajY := Int × EnvP × (WorkerV MV) × (WorkerV MV) × (WorkerV MV) × (WorkerV MV) × (ClientV MV) × (Int × List Int × Int × Int × Int × Int × Unit) × Unit
noncomputable def anV (l : List EntV) (x15 : ajY) (r18 : (Int × Unit) × (MemV × Unit)) :=
   ((
   if ((ap0 l x15.1).kind) = 0 then
   (acV (ap0 l x15.1) 5).bind fun r19 =>
   if r19.1.1 = ((4 : Nat) : Int) then
   (aap x15.2.2.2.2.2.2.1 ({ x15.2.1 with m := r18.2.1 } : EnvP)).bind fun r20 =>
   some (r20.2.2.1, x15.2.2.1, x15.2.2.2.1, x15.2.2.2.2.1, x15.2.2.2.2.2.1, r20.2.1, x15.2.2.2.2.2.2.2.1, ())
   else
   if r19.1.1 = ((3 : Nat) : Int) then
   (aag x15.2.2.2.2.2.1 ({ x15.2.1 with m := r18.2.1 } : EnvP)).bind fun r21 =>
   some (r21.2.2.1, x15.2.2.1, x15.2.2.2.1, x15.2.2.2.2.1, r21.2.1, x15.2.2.2.2.2.2.1, x15.2.2.2.2.2.2.2.1, ())
   else
   if r19.1.1 = ((2 : Nat) : Int) then
   (aag x15.2.2.2.2.1 ({ x15.2.1 with m := r18.2.1 } : EnvP)).bind fun r22 =>
   some (r22.2.2.1, x15.2.2.1, x15.2.2.2.1, r22.2.1, x15.2.2.2.2.2.1, x15.2.2.2.2.2.2.1, x15.2.2.2.2.2.2.2.1, ())
   else
   if r19.1.1 = ((1 : Nat) : Int) then
   (aag x15.2.2.2.1 ({ x15.2.1 with m := r18.2.1 } : EnvP)).bind fun r23 =>
   some (r23.2.2.1, x15.2.2.1, r23.2.1, x15.2.2.2.2.1, x15.2.2.2.2.2.1, x15.2.2.2.2.2.2.1, x15.2.2.2.2.2.2.2.1, ())
   else
   if r19.1.1 = ((0 : Nat) : Int) then
   (aag x15.2.2.1 ({ x15.2.1 with m := r18.2.1 } : EnvP)).bind fun r24 =>
   some (r24.2.2.1, r24.2.1, x15.2.2.2.1, x15.2.2.2.2.1, x15.2.2.2.2.2.1, x15.2.2.2.2.2.2.1, x15.2.2.2.2.2.2.2.1, ())
   else
   none
   else
   if ((ap0 l x15.1).kind) = 1 then
   (adC x15.2.1.k).bind fun r25 =>
   some (({ x15.2.1 with m := r18.2.1, k := r25.2.1 } : EnvP), x15.2.2.1, x15.2.2.2.1, x15.2.2.2.2.1, x15.2.2.2.2.2.1, x15.2.2.2.2.2.2.1, x15.2.2.2.2.2.2.2.1, ())
   else
   if ((ap0 l x15.1).kind) = 2 then
   (ad3 x15.2.1.k ((ap0 l x15.1).value)).bind fun r26 =>
   some (({ x15.2.1 with m := r18.2.1, k := r26.2.1 } : EnvP), x15.2.2.1, x15.2.2.2.1, x15.2.2.2.2.1, x15.2.2.2.2.2.1, x15.2.2.2.2.2.2.1, x15.2.2.2.2.2.2.2.1, ())
   else
   some (({ x15.2.1 with m := r18.2.1 } : EnvP), x15.2.2.1, x15.2.2.2.1, x15.2.2.2.2.1, x15.2.2.2.2.2.1, x15.2.2.2.2.2.2.1, x15.2.2.2.2.2.2.2.1, ())
   ) : Option (EnvP × (WorkerV MV) × (WorkerV MV) × (WorkerV MV) × (WorkerV MV) × (ClientV MV) × (Int × List Int × Int × Int × Int × Int × Unit) × Unit))
noncomputable def akt (l : List EntV) (self17 : ajY → Option (ajY)) (x15 : ajY) : Option (ajY) :=
 if x15.1 < ((l.length : Nat) : Int) then
  if 0 ≤ x15.1 ∧ x15.1 < ((l.length : Nat) : Int) then
   (abc x15.2.1.m).bind fun r18 =>
   (anV l x15 r18).bind fun z27 =>
   aja r18.1.1 z27.1 z27.2.2.2.2.2.2.1 (fun e g => self17 (wi (x15.1 + 1), e, z27.2.1, z27.2.2.1, z27.2.2.2.1, z27.2.2.2.2.1, z27.2.2.2.2.2.1, g, ()))
  else none
 else
 some (x15.1, x15.2.1, x15.2.2.1, x15.2.2.2.1, x15.2.2.2.2.1, x15.2.2.2.2.2.1, x15.2.2.2.2.2.2.1, x15.2.2.2.2.2.2.2.1, ())
noncomputable def gL {α : Type} (c : LayV) (k : Option α) : Option α :=
 if c.workers = c.workers then
  if c.levels = c.levels then
   if c.classes = c.classes then
   if c.tasks = c.tasks then
   if c.deque = c.deque then
   if c.heap = c.heap then
   if c.sleepers = c.sleepers then
   if c.epochs = c.epochs then
   if c.bitmaps = c.bitmaps then
   if c.queues = c.queues then
   if c.table = c.table then
   k
   else none
   else none
   else none
   else none
   else none
   else none
   else none
   else none
   else none
  else none
 else none
theorem aAx {α : Type} {c : LayV} {k : Option α} : gL c k = k := by
  unfold gL; simp only [if_true]
noncomputable def anp {α : Type} (l : LayV) (tasks : Int) (K : Bool → MemV → Option α) (self188 : Int × MemV × Unit → Option ((Int × MemV × Unit) ⊕ α)) (x186 : Int × MemV × Unit) : Option ((Int × MemV × Unit) ⊕ α) :=
 if x186.1 < tasks then
  (axw l).bind fun r189 =>
  if r189.1.1 < 0 then
   if (wu (x186.1)) < 0 then
   (ade l x186.1).bind fun r190 =>
   if r190.1.1 < 0 then
   Option.map Sum.inr (
   K false x186.2.1
   )
   else
   if ((x186.2.1.cells.length : Nat) : Int) ≤ r190.1.1 then
   Option.map Sum.inr (
   K false x186.2.1
   )
   else
   if 0 ≤ r190.1.1 ∧ r190.1.1 < ((x186.2.1.cells.length : Nat) : Int) then
   if (aeA x186.2.1.cells r190.1.1) ≠ 4 then
   Option.map Sum.inr (
   K false x186.2.1
   )
   else
   self188 (wi (x186.1 + 1), x186.2.1, ())
   else none
   else
   some (Sum.inl (x186.1, x186.2.1, ()))
  else
  if ((x186.2.1.cells.length : Nat) : Int) ≤ r189.1.1 then
   if (wu (x186.1)) < 0 then
   (ade l x186.1).bind fun r191 =>
   if r191.1.1 < 0 then
   Option.map Sum.inr (
   K false x186.2.1
   )
   else
   if ((x186.2.1.cells.length : Nat) : Int) ≤ r191.1.1 then
   Option.map Sum.inr (
   K false x186.2.1
   )
   else
   if 0 ≤ r191.1.1 ∧ r191.1.1 < ((x186.2.1.cells.length : Nat) : Int) then
   if (aeA x186.2.1.cells r191.1.1) ≠ 4 then
   Option.map Sum.inr (
   K false x186.2.1
   )
   else
   self188 (wi (x186.1 + 1), x186.2.1, ())
   else none
   else
   some (Sum.inl (x186.1, x186.2.1, ()))
  else
  if 0 ≤ r189.1.1 ∧ r189.1.1 < ((x186.2.1.cells.length : Nat) : Int) then
   if (wu (x186.1)) < (aeA x186.2.1.cells r189.1.1) then
   (ade l x186.1).bind fun r192 =>
   if r192.1.1 < 0 then
   Option.map Sum.inr (
   K false x186.2.1
   )
   else
   if ((x186.2.1.cells.length : Nat) : Int) ≤ r192.1.1 then
   Option.map Sum.inr (
   K false x186.2.1
   )
   else
   if 0 ≤ r192.1.1 ∧ r192.1.1 < ((x186.2.1.cells.length : Nat) : Int) then
   if (aeA x186.2.1.cells r192.1.1) ≠ 4 then
   Option.map Sum.inr (
   K false x186.2.1
   )
   else
   self188 (wi (x186.1 + 1), x186.2.1, ())
   else none
   else
   some (Sum.inl (x186.1, x186.2.1, ()))
  else none
 else
 some (Sum.inl (x186.1, x186.2.1, ()))
noncomputable def aq8 {α : Type} (l : LayV) (tasks : Int) (m : MemV) (K : Bool → MemV → Option α) : Option α :=
 (lpF (anp l tasks K) 18446744073709551616 (0, m, ())).bind fun z => match z with
 | .inr o => some o
 | .inl z => K true z.2.1
noncomputable def ao1 {α : Type} (env : EnvP) (w0 : WorkerV MV) (cl : ClientV MV) (K : Bool → EnvP → WorkerV MV → ClientV MV → Option α) : Option α :=
 (aaD cl).bind fun r =>
 if r.1.1 ≠ 4 then K false env w0 r.2.1
 else
 (aax w0).bind fun s0 =>
 if s0.1.1 = 2 then K false env s0.2.1 r.2.1
 else
 gL env.l (
  aq8 env.l env.c.tasks env.m fun b m => K b ({ env with m := m } : EnvP) s0.2.1 r.2.1
 )
noncomputable def amV {α : Type} (env : EnvP) (w0 : WorkerV MV) (w1 : WorkerV MV) (cl : ClientV MV) (K : Bool → EnvP → WorkerV MV → WorkerV MV → ClientV MV → Option α) : Option α :=
 (aaD cl).bind fun r =>
 if r.1.1 ≠ 4 then K false env w0 w1 r.2.1
 else
 (aax w0).bind fun s0 =>
 if s0.1.1 = 2 then K false env s0.2.1 w1 r.2.1
 else
 (aax w1).bind fun s1 =>
 if s1.1.1 = 2 then K false env s0.2.1 s1.2.1 r.2.1
 else
 gL env.l (
  aq8 env.l env.c.tasks env.m fun b m => K b ({ env with m := m } : EnvP) s0.2.1 s1.2.1 r.2.1
 )
noncomputable def alt {α : Type} (env : EnvP) (w0 : WorkerV MV) (w1 : WorkerV MV) (w2 : WorkerV MV) (cl : ClientV MV) (K : Bool → EnvP → WorkerV MV → WorkerV MV → WorkerV MV → ClientV MV → Option α) : Option α :=
 (aaD cl).bind fun r =>
 if r.1.1 ≠ 4 then K false env w0 w1 w2 r.2.1
 else
 (aax w0).bind fun s0 =>
 if s0.1.1 = 2 then K false env s0.2.1 w1 w2 r.2.1
 else
 (aax w1).bind fun s1 =>
 if s1.1.1 = 2 then K false env s0.2.1 s1.2.1 w2 r.2.1
 else
 (aax w2).bind fun s2 =>
 if s2.1.1 = 2 then K false env s0.2.1 s1.2.1 s2.2.1 r.2.1
 else
 gL env.l (
  aq8 env.l env.c.tasks env.m fun b m => K b ({ env with m := m } : EnvP) s0.2.1 s1.2.1 s2.2.1 r.2.1
 )
noncomputable def ajU {α : Type} (env : EnvP) (w0 : WorkerV MV) (w1 : WorkerV MV) (w2 : WorkerV MV) (w3 : WorkerV MV) (cl : ClientV MV) (K : Bool → EnvP → WorkerV MV → WorkerV MV → WorkerV MV → WorkerV MV → ClientV MV → Option α) : Option α :=
 (aaD cl).bind fun r =>
 if r.1.1 ≠ 4 then K false env w0 w1 w2 w3 r.2.1
 else
 (aax w0).bind fun s0 =>
 if s0.1.1 = 2 then K false env s0.2.1 w1 w2 w3 r.2.1
 else
 (aax w1).bind fun s1 =>
 if s1.1.1 = 2 then K false env s0.2.1 s1.2.1 w2 w3 r.2.1
 else
 (aax w2).bind fun s2 =>
 if s2.1.1 = 2 then K false env s0.2.1 s1.2.1 s2.2.1 w3 r.2.1
 else
 (aax w3).bind fun s3 =>
 if s3.1.1 = 2 then K false env s0.2.1 s1.2.1 s2.2.1 s3.2.1 r.2.1
 else
 gL env.l (
  aq8 env.l env.c.tasks env.m fun b m => K b ({ env with m := m } : EnvP) s0.2.1 s1.2.1 s2.2.1 s3.2.1 r.2.1
 )
abbrev aF8 := Int × List St × ah0 × Unit
noncomputable def aze (evs : List Ev) (self : aF8 → Option aF8) (x : aF8) : Option aF8 :=
 if x.1 < ((evs.length : Nat) : Int) then
  if 0 ≤ x.1 ∧ x.1 < ((evs.length : Nat) : Int) then
   if 0 ≤ x.1 ∧ x.1 < ((x.2.2.1.2.1.length : Nat) : Int) then
   if (((x.2.1.length + ([(⟨aik x.2.2.1.2.1 x.1, aF2 evs x.1⟩ : St)] : List St).length : Nat)) : Int) < 1000000000000 then
   self (wi (x.1 + 1), x.2.1 ++ ([(⟨aik x.2.2.1.2.1 x.1, aF2 evs x.1⟩ : St)]), x.2.2.1, ())
   else none
   else none
  else none
 else some x
noncomputable def aFS {α : Type} (_ : Int × α → Option (Int × α)) (x : Int × α) : Option (Int × α) := if x.1 < 0 then none else some x
noncomputable def aDY (l : List St) (self : Int × Unit → Option ((Int × Unit) ⊕ ((Bool × Unit) × Unit))) (x : Int × Unit) : Option ((Int × Unit) ⊕ ((Bool × Unit) × Unit)) :=
 if x.1 < ((l.length : Nat) : Int) then
  if 0 ≤ x.1 ∧ x.1 < ((l.length : Nat) : Int) then
   ((
   if ((aAW l x.1).ev.kind) = 5 then some (true, ())
   else if ((aAW l x.1).ev.kind) = 9 then some (true, ())
   else if ((aAW l x.1).ev.kind) = 10 then some (true, ())
   else if ((aAW l x.1).ev.kind) = 3 then some (true, ())
   else if ((aAW l x.1).ev.kind) = 1 then some (true, ())
   else if ((aAW l x.1).ev.kind) = 2 then some (true, ())
   else some (decide (((aAW l x.1).ev.kind) = 6), ())
   ) : Option (Bool × Unit)).bind fun z =>
   if z.1 = true then Option.map Sum.inr (some ((false, ()), (())))
   else self (wi (x.1 + 1), ())
  else none
 else some (Sum.inl (x.1, ()))
structure EG (N : Nat) (e : EnvP) (g : ah0) : Prop where
  n : g.1 = (N : Int)
  l : g.2.1.length = e.evs.length
  r : ∀ s ∈ g.2.1, 0 ≤ s ∧ s < (N : Int)
  s : g.2.1.Pairwise (· ≤ ·)
theorem an7 {N : Nat} {env : EnvP} {eng : ah0} (F : (EnvP × ah0 × Unit → Option (EnvP × ah0 × Unit)) → EnvP × ah0 × Unit → Option (EnvP × ah0 × Unit))
    (hF : ∀ self x, F self x = if ((x.2.1.2.1.length : Nat) : Int) < ((x.1.evs.length : Nat) : Int) then
        if (((x.2.1.2.1.length + ([x.2.1.1] : List Int).length : Nat)) : Int) < 1000000000000 then self (x.1, (x.2.1.1, x.2.1.2.1 ++ ([x.2.1.1]), x.2.1.2.2.1, x.2.1.2.2.2.1, x.2.1.2.2.2.2.1, x.2.1.2.2.2.2.2.1, ()), ()) else none
      else some (x.1, (x.2.1.1, x.2.1.2.1, x.2.1.2.2.1, x.2.1.2.2.2.1, x.2.1.2.2.2.2.1, x.2.1.2.2.2.2.2.1, ()), ()))
    (hn : eng.1 = (N : Int)) (h : eng.2.1.length ≤ env.evs.length) (he : env.evs.length ≤ 999999999) (hr : ∀ s ∈ eng.2.1, 0 ≤ s ∧ s < (N : Int)) (hs : eng.2.1.Pairwise (· ≤ ·)) :
    aaN (lpF F 18446744073709551616 (env, eng, ())) fun z => z.1 = env ∧ z.2.1.1 = (N : Int) ∧ z.2.1.2.1.length = env.evs.length ∧ (∀ s ∈ z.2.1.2.1, 0 ≤ s ∧ s < (N : Int) + 1) ∧ z.2.1.2.1.Pairwise (· ≤ ·) := by
  refine acm (fun x => x.1 = env ∧ x.2.1.1 = (N : Int) ∧ x.2.1.2.1.length ≤ env.evs.length ∧ (∀ s ∈ x.2.1.2.1, 0 ≤ s ∧ s < (N : Int) + 1) ∧ x.2.1.2.1.Pairwise (· ≤ ·)) (fun x => env.evs.length - x.2.1.2.1.length) (fun self x hx ih => ?_) _ _ ⟨rfl, hn, h, fun s k => by have := hr s k; omega, hs⟩ (by show env.evs.length - _ < _; omega)
  obtain ⟨e, ⟨n, st, a, b, c, d, ⟨⟩⟩, ⟨⟩⟩ := x
  obtain ⟨h1, h2, h3, h4, h5⟩ := hx
  simp only at h1 h2 h3 h4 h5
  subst h1
  subst h2
  rw [hF]
  refine aaN.ite (fun hlt => ?_) fun hge => .some_ ⟨rfl, rfl, ?_, h4, h5⟩
  · have hlt : ((st.length : Nat) : Int) < ((e.evs.length : Nat) : Int) := hlt
    refine aaN.guard (by simp only [List.length_singleton]; omega) fun _ => ?_
    refine ih _ ⟨rfl, rfl, ?_, ?_, ?_⟩ ?_
    · show (st ++ [(N : Int)]).length ≤ _
      rw [List.length_append, List.length_singleton]
      omega
    · intro s hs
      rcases List.mem_append.1 hs with k | k
      · exact h4 s k
      · have k2 : s = (N : Int) := List.mem_singleton.1 k
        omega
    · show (st ++ [(N : Int)]).Pairwise (· ≤ ·)
      rw [List.pairwise_append]
      exact ⟨h5, by simp, fun x hx y hy => by rw [List.mem_singleton.1 hy]; have := h4 x hx; omega⟩
    · show e.evs.length - (st ++ [(N : Int)]).length < e.evs.length - st.length
      rw [List.length_append, List.length_singleton]
      omega
  · have hge : ¬ ((st.length : Nat) : Int) < ((e.evs.length : Nat) : Int) := hge
    show st.length = e.evs.length
    have h3 : st.length ≤ e.evs.length := h3
    omega
theorem auz {σ : Type} {N : Nat} {c0 : Int} {env e0 : EnvP} {eng : ah0} {self : EnvP → ah0 → Option σ} {P : σ → Prop}
    (hg : EG N e0 eng) (hev : ∃ l, env.evs = e0.evs ++ l) (he : env.evs.length ≤ 999999999) (hN : N ≤ 1000000)
    (hs : ∀ eng' : ah0, EG (N + 1) env (wi (eng'.1 + 1), eng'.2) → aaN (self env (wi (eng'.1 + 1), eng'.2.1, eng'.2.2.1, eng'.2.2.2.1, eng'.2.2.2.2.1, eng'.2.2.2.2.2.1, ())) P) : aaN (aja c0 env eng self) P := by
  obtain ⟨l, hl⟩ := hev
  have hle : eng.2.1.length ≤ env.evs.length := by rw [hg.l, hl, List.length_append]; omega
  have fin : ∀ z : EnvP × ah0 × Unit, (z.1 = env ∧ z.2.1.1 = (N : Int) ∧ z.2.1.2.1.length = env.evs.length ∧ (∀ s ∈ z.2.1.2.1, 0 ≤ s ∧ s < (N : Int) + 1) ∧ z.2.1.2.1.Pairwise (· ≤ ·)) → aaN (self z.1 (wi (z.2.1.1 + 1), z.2.1.2.1, z.2.1.2.2.1, z.2.1.2.2.2.1, z.2.1.2.2.2.2.1, z.2.1.2.2.2.2.2.1, ())) P := fun z hz => by
    obtain ⟨z1, z2, z3, z4, z5⟩ := hz
    rw [z1]
    refine hs z.2.1 ⟨?_, z3, fun s k => ?_, z5⟩
    · show wi (z.2.1.1 + 1) = _
      rw [z2, aaQ (aau (by omega))]; omega
    · have := z4 s k; omega
  unfold aja
  rw [alu, bnd]
  refine aaN.ite (fun _ => ?_) fun _ => ?_
  · rw [aC5, bnd]
    exact aaN.bind (an7 _ (fun _ _ => rfl) hg.n (by exact hle) (by exact he) hg.r hg.s) fin
  · exact aaN.bind (an7 _ (fun _ _ => rfl) hg.n (by exact hle) (by exact he) hg.r hg.s) fin
theorem avy (c : ClientV MV) : ∃ s, aaD c = some ((s, ()), (c, ())) ∧ (s = 4 ↔ (c.subs.length : Int) ≤ c.i) := by
  unfold aaD aar
  rw [bnd]
  simp only
  by_cases h1 : ((c.subs.length : Nat) : Int) ≤ c.i
  · rw [if_pos (decide_eq_true h1)]; exact ⟨_, rfl, fun _ => h1, fun _ => rfl⟩
  · rw [if_neg (by rw [decide_eq_true_iff]; exact h1)]
    by_cases h2 : c.line = 1
    · rw [if_pos h2]; exact ⟨_, rfl, fun k => absurd k (by decide), fun k => absurd k h1⟩
    · rw [if_neg h2]; exact ⟨_, rfl, fun k => absurd k (by decide), fun k => absurd k h1⟩
theorem ajJ (w : WorkerV MV) : ∃ s, aax w = some ((s, ()), (w, ())) ∧ (s = 2 ↔ w.line = 7) := by
  unfold aax al9
  by_cases h1 : w.line = 0
  · rw [if_pos h1]; exact ⟨_, rfl, fun k => absurd k (by decide), fun k => by omega⟩
  · rw [if_neg h1]
    by_cases h2 : w.line = 7
    · rw [if_pos h2]; exact ⟨_, rfl, fun _ => h2, fun _ => rfl⟩
    · rw [if_neg h2]
      by_cases h3 : w.line = 8
      · rw [if_pos h3, bnd]
        simp only
        by_cases h4 : asl w.inside = true
        · rw [if_pos h4]; exact ⟨_, rfl, fun k => absurd k (by decide), fun k => absurd k h2⟩
        · rw [if_neg h4]; exact ⟨_, rfl, fun k => absurd k (by decide), fun k => absurd k h2⟩
      · rw [if_neg h3]; exact ⟨_, rfl, fun k => absurd k (by decide), fun k => absurd k h2⟩
noncomputable def awe {α : Type} (l : LayV) (K : Bool → MemV → Option α) (self : Int × MemV × Unit → Option ((Int × MemV × Unit) ⊕ α)) (x : Int × MemV × Unit) : Option ((Int × MemV × Unit) ⊕ α) :=
  (ade l x.1).bind fun r =>
  if r.1.1 < 0 then Option.map Sum.inr (K false x.2.1)
  else if ((x.2.1.cells.length : Nat) : Int) ≤ r.1.1 then Option.map Sum.inr (K false x.2.1)
  else if 0 ≤ r.1.1 ∧ r.1.1 < ((x.2.1.cells.length : Nat) : Int) then
   if (aeA x.2.1.cells r.1.1) ≠ 4 then Option.map Sum.inr (K false x.2.1)
   else self (wi (x.1 + 1), x.2.1, ())
  else none
theorem asL {α : Type} (l : LayV) (tasks : Int) (K : Bool → MemV → Option α) (self : Int × MemV × Unit → Option ((Int × MemV × Unit) ⊕ α)) (x : Int × MemV × Unit) :
    anp l tasks K self x = if x.1 < tasks then (if (0 : Int) < 0 then (if wu x.1 < 0 then awe l K self x else some (Sum.inl (x.1, x.2.1, ()))) else if ((x.2.1.cells.length : Nat) : Int) ≤ 0 then (if wu x.1 < 0 then awe l K self x else some (Sum.inl (x.1, x.2.1, ())))
      else if 0 ≤ (0 : Int) ∧ (0 : Int) < ((x.2.1.cells.length : Nat) : Int) then (if wu x.1 < aeA x.2.1.cells 0 then awe l K self x else some (Sum.inl (x.1, x.2.1, ()))) else none) else some (Sum.inl (x.1, x.2.1, ())) := by kernel_rfl
def aur (c : Cfg) (e : EnvP) : Prop := ∀ t, 0 ≤ t → t < c.tasks → t < e.gt 0 → Stt c e t = 4
theorem ays {c : Cfg} {e : EnvP} (h : DecOk c) (hn : (e.m.cells.length : Int) = aaP c) : ∀ (n : Nat) (t : Int), 0 ≤ t → (c.tasks - t).toNat = n → ∃ b : Bool, (∀ {α : Type} (K : Bool → MemV → Option α) (k : Nat), n < k → ((lpF (anp (aao c) c.tasks K) k (t, e.m, ())).bind fun z => match z with
    | .inr o => some o
    | .inl z => K true z.2.1) = K b e.m) ∧ (b = true ↔ ∀ u, t ≤ u → u < c.tasks → u < e.gt 0 → Stt c e u = 4) := by
  have ht := h.t
  have hq := agl h
  have hh := h.h
  have hc : aaP c = (aao c).table + 5 * c.tasks := rfl
  intro n
  induction n with
  | zero =>
    intro t h0 hn0
    refine ⟨true, fun K k hk => ?_, fun _ u h1 h2 _ => by omega, fun _ => rfl⟩
    obtain ⟨k, rfl⟩ : ∃ j, k = j + 1 := ⟨k - 1, by omega⟩
    show ((anp (aao c) c.tasks K (lpF (anp (aao c) c.tasks K) k) (t, e.m, ())).bind _) = _
    rw [asL, if_neg (by show ¬ t < c.tasks; omega)]
    rfl
  | succ n ih =>
    intro t h0 hn1
    have hlt : t < c.tasks := by omega
    have e1 : wu t = t := agD (by omega)
    have e2 : wi (t + 1) = t + 1 := aaQ (aau (by omega))
    have unf : ∀ {α : Type} (K : Bool → MemV → Option α) self, anp (aao c) c.tasks K self (t, e.m, ()) = if t < aeA e.m.cells 0 then awe (aao c) K self (t, e.m, ()) else some (Sum.inl (t, e.m, ())) := fun K self => by
      rw [asL, if_pos hlt, if_neg (by decide), if_neg (by show ¬ ((e.m.cells.length : Nat) : Int) ≤ 0; omega), if_pos (by show 0 ≤ (0 : Int) ∧ (0 : Int) < ((e.m.cells.length : Nat) : Int); omega)]
      show (if wu t < _ then _ else _) = _
      rw [e1]
    have e3 : aeA e.m.cells 0 = e.gt 0 := by
      show _ = e.m.gt 0
      unfold MemV.gt; rw [if_pos (by omega)]
    rw [e3] at unf
    by_cases hN : t < e.gt 0
    · have hrg := aBL h (f := 0) (by omega) (show TOk c t from ⟨h0, hlt⟩)
      have hrg : 0 ≤ aaV (aao c) t ∧ aaV (aao c) t < aaP c := hrg
      have e4 : aeA e.m.cells (aaV (aao c) t) = Stt c e t := by
        show _ = e.m.gt _
        unfold MemV.gt; rw [if_pos (by omega)]
      by_cases hS : Stt c e t = 4
      · obtain ⟨b, hb, hb2⟩ := ih (t + 1) (by omega) (by omega)
        refine ⟨b, fun K k hk => ?_, ?_⟩
        · obtain ⟨k, rfl⟩ : ∃ j, k = j + 1 := ⟨k - 1, by omega⟩
          show ((anp (aao c) c.tasks K (lpF (anp (aao c) c.tasks K) k) (t, e.m, ())).bind _) = _
          rw [unf, if_pos hN]
          unfold awe
          rw [adR, bnd, if_neg (by show ¬ aaV (aao c) t < 0; omega), if_neg (by show ¬ ((e.m.cells.length : Nat) : Int) ≤ aaV (aao c) t; omega), if_pos (by show 0 ≤ aaV (aao c) t ∧ aaV (aao c) t < ((e.m.cells.length : Nat) : Int); omega)]
          simp only
          rw [e4, if_neg (fun k => k hS), e2]
          exact hb K k (by omega)
        · rw [hb2]
          refine ⟨fun k u h1 h2 h3 => ?_, fun k u h1 h2 h3 => k u (by omega) h2 h3⟩
          by_cases hu : u = t
          · rw [hu]; exact hS
          · exact k u (by omega) h2 h3
      · refine ⟨false, fun K k hk => ?_, fun k => (by cases k), fun k => absurd (k t (Int.le_refl _) hlt hN) hS⟩
        obtain ⟨k, rfl⟩ : ∃ j, k = j + 1 := ⟨k - 1, by omega⟩
        show ((anp (aao c) c.tasks K (lpF (anp (aao c) c.tasks K) k) (t, e.m, ())).bind _) = _
        rw [unf, if_pos hN]
        unfold awe
        rw [adR, bnd, if_neg (by show ¬ aaV (aao c) t < 0; omega), if_neg (by show ¬ ((e.m.cells.length : Nat) : Int) ≤ aaV (aao c) t; omega), if_pos (by show 0 ≤ aaV (aao c) t ∧ aaV (aao c) t < ((e.m.cells.length : Nat) : Int); omega)]
        simp only
        rw [e4, if_pos hS]
        cases K false e.m <;> rfl
    · refine ⟨true, fun K k hk => ?_, fun _ u h1 h2 h3 => by omega, fun _ => rfl⟩
      obtain ⟨k, rfl⟩ : ∃ j, k = j + 1 := ⟨k - 1, by omega⟩
      show ((anp (aao c) c.tasks K (lpF (anp (aao c) c.tasks K) k) (t, e.m, ())).bind _) = _
      rw [unf, if_neg hN]
      rfl
theorem avw {c : Cfg} {e : EnvP} (h : DecOk c) (hn : (e.m.cells.length : Int) = aaP c) : ∃ b : Bool, (∀ {α : Type} (K : Bool → MemV → Option α), aq8 (aao c) c.tasks e.m K = K b e.m) ∧ (b = true ↔ aur c e) := by
  have ht := h.t
  obtain ⟨b, h1, h2⟩ := ays h hn _ 0 (Int.le_refl 0) rfl
  refine ⟨b, fun K => h1 K _ (by omega), h2⟩
def apx (c : Cfg) (e : EnvP) (ws : List (WorkerV MV)) (cl : ClientV MV) : Prop := (cl.subs.length : Int) ≤ cl.i ∧ (∀ w ∈ ws, w.line ≠ 7) ∧ aur c e
def stF (s : Int) (v : Ev) : St := ⟨s, v⟩
theorem agJ {evs : List Ev} {g : ah0} (h1 : g.2.1.length = evs.length) (h2 : evs.length ≤ 999999999) : aaN (lpF (aze evs) 18446744073709551616 (0, [], g, ())) fun z => z.2.1 = List.zipWith stF g.2.1 evs ∧ z.2.2.1 = g := by
  have hl : (List.zipWith stF g.2.1 evs).length = evs.length := by rw [List.length_zipWith, h1]; omega
  refine (acm (fun x => 0 ≤ x.1 ∧ x.1 ≤ (evs.length : Int) ∧ x.2.1 = (List.zipWith stF g.2.1 evs).take x.1.toNat ∧ x.2.2.1 = g) (fun x => ((evs.length : Int) - x.1).toNat) (fun self x hx ih => ?_) _ _ ⟨Int.le_refl 0, by show (0 : Int) ≤ _; omega, rfl, rfl⟩ (by show ((evs.length : Int) - 0).toNat < _; omega))
  obtain ⟨i, l, g', ⟨⟩⟩ := x
  obtain ⟨q1, q2, q3, q4⟩ := hx
  simp only at q1 q2 q3 q4
  subst q4
  have e1 : wi (i + 1) = i + 1 := aaQ (aau (by omega))
  unfold aze
  refine aaN.ite (fun hlt => ?_) fun hge => .some_ ⟨?_, rfl⟩
  · have hlt : i < (evs.length : Int) := hlt
    have hll : l.length ≤ evs.length := by rw [q3, List.length_take]; omega
    refine .guard ⟨q1, hlt⟩ fun _ => .guard (by show 0 ≤ i ∧ i < ((g'.2.1.length : Nat) : Int); omega) fun _ => .guard (by simp only [List.length_singleton]; omega) fun _ => ?_
    show aaN (self (wi (i + 1), _)) _
    rw [e1]
    refine ih _ ⟨by show 0 ≤ i + 1; omega, by show i + 1 ≤ _; omega, ?_, rfl⟩ (by show (_ - (i + 1) : Int).toNat < (_ - i : Int).toNat; omega)
    show l ++ [_] = _
    have e2 : (i + 1).toNat = i.toNat + 1 := by omega
    have hi : i.toNat < (List.zipWith stF g'.2.1 evs).length := by omega
    rw [q3, e2, List.take_succ_eq_append_getElem hi, List.getElem_zipWith]
    have k1 : aik g'.2.1 i = g'.2.1[i.toNat]'(by omega) := by
      have := aet (α := Int) (d := (dfR 1 : TR 1)) (xs := g'.2.1) (i := i) ⟨q1, by have h1 : g'.2.1.length = evs.length := h1; have hlt : i < (evs.length : Int) := hlt; omega⟩
      rw [List.getElem?_eq_getElem (by omega)] at this
      exact (Option.some.inj this).symm
    have k2 : aF2 evs i = evs[i.toNat]'(by omega) := by
      have := aet (α := Ev) (d := (dfR 2 : TR 2)) (xs := evs) (i := i) ⟨q1, hlt⟩
      rw [List.getElem?_eq_getElem (by omega)] at this
      exact (Option.some.inj this).symm
    show _ ++ [(⟨aik g'.2.1 i, aF2 evs i⟩ : St)] = _
    rw [k1, k2]; rfl
  · have hge : ¬ i < (evs.length : Int) := hge
    show l = _
    rw [q3, List.take_of_length_le (by omega)]
theorem aEy {b : List Int} (hb : b.length ≤ 1000000) : aaN (anA b) fun o => o.1.1.length ≤ 65536 := by
  unfold anA
  refine aaN.bind (P := fun z => z.1.length ≤ 65536) (acm (fun x => 0 ≤ x.2.1 ∧ x.2.1 ≤ (b.length : Int) + 2 ∧ x.1.length ≤ 65536) (fun x => ((b.length : Int) + 2 - x.2.1).toNat) (fun self x ⟨q0, q1, q2⟩ ih => ?_) _ _ ⟨Int.le_refl 0, by show (0 : Int) ≤ (b.length : Int) + 2; omega, Nat.zero_le _⟩ (by show ((b.length : Int) + 2 - 0).toNat < _; omega)) fun z hz => .some_ hz
  have e1 : wi (x.2.1 + 1) = x.2.1 + 1 := aaQ (aau (by omega))
  have e2 : wi (x.2.1 + 2) = x.2.1 + 2 := aaQ (aau (by omega))
  rw [e1, e2]
  refine aaN.ite (fun h1 => aaN.ite (fun h2 => .guard (by omega) fun _ => .guard (by omega) fun _ => .guard rfl fun _ => .guard rfl fun _ => ?_) fun _ => .some_ q2) fun _ => .some_ q2
  have nx : ∀ u : EntV, aaN (self (x.1 ++ [u], x.2.1 + 2, ())) fun z => z.1.length ≤ 65536 := fun u => ih _ ⟨by show 0 ≤ x.2.1 + 2; omega, by show x.2.1 + 2 ≤ (b.length : Int) + 2; omega, by simp; omega⟩ (by show ((b.length : Int) + 2 - (x.2.1 + 2)).toNat < ((b.length : Int) + 2 - x.2.1).toNat; omega)
  refine aaN.ite (fun _ => .guard (by simp; omega) fun _ => nx _) fun _ => aaN.ite (fun _ => .guard (by simp; omega) fun _ => nx _) fun _ => .guard (by simp; omega) fun _ => nx _
theorem ajc {b : List Int} {n : Int} (hb : b.length ≤ 1000000) (hn : 0 ≤ n) : aaN (ake b n) fun o => o.1.1.length ≤ n.toNat := by
  unfold ake
  refine (aEy hb).bind fun r hr => aaN.ite (fun h => .guard (by omega) fun _ => .some_ (by show (r.1.1.take n.toNat).length ≤ n.toNat; simp; omega)) fun h => .some_ (by show r.1.1.length ≤ n.toNat; omega)
theorem ayo {x k : Int} (hk : 1 ≤ k ∧ k ≤ 1000000) : aaN (adE x k) fun o => 0 ≤ o.1.1 ∧ o.1.1 < k := by
  have h1 : Int.tmod x k < k ∧ -k < Int.tmod x k := by
    constructor
    · exact Int.tmod_lt_of_pos _ (by omega)
    · have h2 : Int.tmod (-x) k < k := Int.tmod_lt_of_pos _ (by omega)
      rw [Int.neg_tmod] at h2
      omega
  unfold adE
  rw [if_neg (by omega), if_pos (by omega)]
  refine aaN.ite (fun hl => ?_) fun hl => ?_
  · rw [if_pos (by omega), aaQ (aau (by omega))]
    exact .some_ ⟨by show 0 ≤ Int.tmod x k + k; omega, by show Int.tmod x k + k < k; omega⟩
  · rw [if_pos (by omega)]
    exact .some_ ⟨by show 0 ≤ Int.tmod x k; omega, h1.1⟩
theorem agw {l : List Int} {i k : Int} (hl : l.length ≤ 1000000) (hi : 0 ≤ i ∧ i ≤ 1000000) (hk : 1 ≤ k ∧ k ≤ 1000000) : aaN (aaS l i k) fun o => 0 ≤ o.1.1 ∧ o.1.1 < k := by
  unfold aaS
  refine aaN.ite (fun h => .some_ ⟨Int.le_refl 0, by show (0 : Int) < k; omega⟩) fun h => ?_
  have h0 : (0 : Int) < ((l.length : Nat) : Int) := by omega
  have h1 := ap8 (a := i) (b := ((l.length : Nat) : Int)) (by omega) hi.1
  have h2 : 0 ≤ Int.tdiv i ((l.length : Nat) : Int) := Int.tdiv_nonneg hi.1 (by omega)
  have h3 : Int.tdiv i ((l.length : Nat) : Int) ≤ 1000000 := Int.le_trans (Int.tdiv_le_self _ hi.1) hi.2
  have h4 := ap8 (a := Int.tdiv i ((l.length : Nat) : Int)) (b := 7) (by decide) h2
  rw [aaQ (x := Int.tdiv i ((l.length : Nat) : Int)) (aau (by omega)), aaQ (x := 1 + Int.tmod (Int.tdiv i ((l.length : Nat) : Int)) 7) (aau (by omega))]
  refine .guard (by omega) fun _ => .guard h1 fun _ => .guard (by omega) fun _ => .guard (by omega) fun _ => ?_
  exact (ayo hk).bind fun r hr => .some_ hr
theorem aml {l : List EntV} {x : EntV} {i : Int} (hl : l.length ≤ 1000000) (hi : 0 ≤ i ∧ i ≤ (l.length : Int)) : aaN (abO l x i) fun o => o.1.1.length = l.length + 1 := by
  have ht : (l.take i.toNat).length = i.toNat := by rw [List.length_take]; omega
  have hd : (l.drop i.toNat).length = l.length - i.toNat := by rw [List.length_drop]
  unfold abO
  refine .guard hi fun _ => .guard (by rw [ht]; show ((0 + i.toNat : Nat) : Int) < _; omega) fun _ => .guard (by simp only [List.nil_append, ht, List.length_singleton]; omega) fun _ => .guard hi fun _ => .guard (by simp only [List.nil_append, List.length_append, ht, hd, List.length_singleton]; omega) fun _ => .some_ ?_
  show ((([] ++ l.take i.toNat) ++ [x]) ++ l.drop i.toNat).length = _
  simp only [List.nil_append, List.length_append, ht, hd, List.length_singleton]
  omega
theorem akP {l : List Int} {a k : Int} (hl : l.length ≤ 1000000) (ha : 0 ≤ a ∧ a ≤ 10000) (hk : 1 ≤ k ∧ k ≤ 100) : aaN (abz l a k) fun o => o.1.1.length ≤ 200 := by
  unfold abz
  refine aaN.bind (P := fun z => (z.1.length : Int) = k) (acm (fun x => 0 ≤ x.2.1 ∧ x.2.1 ≤ k ∧ (x.1.length : Int) = x.2.1) (fun x => (k - x.2.1).toNat) (fun self x ⟨q0, q1, q2⟩ ih => ?istep) _ _ ⟨Int.le_refl 0, by show (0 : Int) ≤ k; omega, rfl⟩ (by show (k - 0).toNat < _; omega)) fun z hz => ?icont
  case istep =>
    have e1 : wi (x.2.1 + 1) = x.2.1 + 1 := aaQ (aau (by omega))
    have e2 : wi (a + x.2.1) = a + x.2.1 := aaQ (aau (by omega))
    refine aaN.ite (fun hlt => ?_) fun hge => .some_ (by show (x.1.length : Int) = k; omega)
    rw [e1, e2]
    show aaN ((aaS l (a + x.2.1) (x.2.1 + 1)).bind _) _
    refine (agw hl (by omega) (by omega)).bind fun r hr => ?_
    refine (aml (by omega) ⟨hr.1, by omega⟩).bind fun s hs => ih _ ⟨by show 0 ≤ x.2.1 + 1; omega, by show x.2.1 + 1 ≤ k; omega, by show (s.1.1.length : Int) = x.2.1 + 1; omega⟩ (by show (k - (x.2.1 + 1)).toNat < (k - x.2.1).toNat; omega)
  case icont =>
    have e3 : wi (a + k) = a + k := aaQ (aau (by omega))
    have e4 : wi (k + 1) = k + 1 := aaQ (aau (by omega))
    have e5 : wi (a + k + 1) = a + k + 1 := aaQ (aau (by omega))
    rw [e3, e4]
    refine (agw hl (by omega) (by omega)).bind fun r7 h7 => ?_
    refine (aml (by omega) ⟨h7.1, by omega⟩).bind fun r8 h8 => ?_
    rw [e5]
    refine (agw (k := 3) hl (by omega) (by decide)).bind fun r9 h9 => ?_
    refine aaN.bind (P := fun z => z.1.length ≤ 200) (acm (fun x => 0 ≤ x.2.1 ∧ x.2.1 ≤ 2 ∧ (x.1.length : Int) + x.2.1 ≤ k + 3) (fun x => x.2.1.toNat) (fun self x ⟨q0, q1, q2⟩ ih => ?_) _ _ ⟨h9.1, by show r9.1.1 ≤ 2; omega, by show (r8.1.1.length : Int) + r9.1.1 ≤ k + 3; omega⟩ (by show r9.1.1.toNat < _; omega)) fun z hz => .some_ hz
    have e6 : wi (a + k + x.2.1) = a + k + x.2.1 := aaQ (aau (by omega))
    have e7 : wi (a + x.2.1) = a + x.2.1 := aaQ (aau (by omega))
    have e8 : wi (x.2.1 - 1) = x.2.1 - 1 := aaQ (aau (by omega))
    have e9 : wi (((x.1.length : Nat) : Int) + 1) = ((x.1.length : Nat) : Int) + 1 := aaQ (aau (by omega))
    refine aaN.ite (fun hlt => ?_) fun _ => .some_ (by show x.1.length ≤ 200; omega)
    rw [e6, e7, e8, e9]
    refine (agw hl (by omega) (by omega)).bind fun r13 h13 => ?_
    show aaN ((aaS l (a + x.2.1) (((x.1.length : Nat) : Int) + 1)).bind _) _
    refine (agw hl (by omega) (by omega)).bind fun r15 h15 => ?_
    refine (aml (by omega) ⟨h15.1, by omega⟩).bind fun r16 h16 => ih _ ⟨by show 0 ≤ x.2.1 - 1; omega, by show x.2.1 - 1 ≤ 2; omega, by show (r16.1.1.length : Int) + (x.2.1 - 1) ≤ k + 3; omega⟩ (by show (x.2.1 - 1).toNat < x.2.1.toNat; omega)
theorem aFo {c : Cfg} {I : Nat → EnvP → List (WorkerV MV) → ClientV MV → Prop} (hI : EngI c I) {N : Nat} {env : EnvP} {w0 : WorkerV MV} {cl : ClientV MV} {eng : ah0} {i : Int} {l : List EntV} (h : I N env [w0] cl) (hN : N ≤ 100000) :
    aaN (anY l (i, env, w0, cl, eng, ()) ((env.m.count, ()), (env.m, ()))) fun z => I (N + 1) z.1 [z.2.1] z.2.2.1 ∧ z.2.2.2.1 = eng ∧ ∃ l, z.1.evs = env.evs ++ l := by
  unfold anY
  refine aaN.ite (fun hk => ?_) fun hk => aaN.ite (fun _ => ?_) fun _ => aaN.ite (fun _ => ?_) fun _ => ?_
  · refine (ala (n := 2) (by decide) hk).bind fun o ho => ?_
    refine aaN.ite (fun _ => ?_) fun n1 => aaN.ite (fun _ => ?_) fun n0 => ?_
    · exact (hI.c h hN).bind fun o ho => .some_ ⟨ho.1, rfl, ho.2⟩
    · exact (hI.w h hN (j := 0) rfl).bind fun o ho => .some_ ⟨ho.1, rfl, ho.2⟩
    · exfalso; have m0 : ¬ o.1.1 = ((0 : Nat) : Int) := n0; have m1 : ¬ o.1.1 = ((1 : Nat) : Int) := n1; omega
  · exact ⟨_, rfl, hI.n (hI.k h), rfl, [], by simp⟩
  · exact ⟨_, rfl, hI.n (hI.k h), rfl, [], by simp⟩
  · exact ⟨_, rfl, hI.n h, rfl, [], by simp⟩
theorem aBt {c : Cfg} {I : Nat → EnvP → List (WorkerV MV) → ClientV MV → Prop} (hI : EngI c I) {N : Nat} {env : EnvP} {w0 : WorkerV MV} {cl : ClientV MV} {eng : ah0} {l : List EntV} (h : I N env [w0] cl) (hg : EG N env eng) (hN : N + l.length ≤ 100000) :
    aaN (lpF (akw l) 18446744073709551616 (0, env, w0, cl, eng, ())) fun z => I (N + l.length) z.2.1 [z.2.2.1] z.2.2.2.1 ∧ EG (N + l.length) z.2.1 z.2.2.2.2.1 ∧ ∃ m, z.2.1.evs = env.evs ++ m := by
  refine acm (fun x => 0 ≤ x.1 ∧ x.1 ≤ (l.length : Int) ∧ I (N + x.1.toNat) x.2.1 [x.2.2.1] x.2.2.2.1 ∧ EG (N + x.1.toNat) x.2.1 x.2.2.2.2.1 ∧ ∃ m, x.2.1.evs = env.evs ++ m) (fun x => (l.length : Int).toNat - x.1.toNat) (fun self x hx ih => ?_) _ _ ?init (by show (l.length : Int).toNat - 0 < _; omega)
  case init => exact ⟨Int.le_refl 0, by show (0 : Int) ≤ _; omega, h, hg, [], by simp⟩
  obtain ⟨i, en2, w0, cl, eng, ⟨⟩⟩ := x
  obtain ⟨q1, q2, h, hg, m0, hm⟩ := hx
  simp only at q1 q2 h hg hm
  unfold akw
  refine aaN.ite (fun hlt => ?_) fun hge => .some_ ?iend
  case iend =>
    have hge : ¬ i < (l.length : Int) := hge
    have : i.toNat = l.length := by omega
    rw [this] at h hg
    exact ⟨h, hg, m0, hm⟩
  have hlt : i < (l.length : Int) := hlt
  refine aaN.guard ⟨q1, hlt⟩ fun _ => ?_
  rw [alu, bnd]
  refine (aFo hI (i := i) (l := l) (eng := eng) h (by omega)).bind fun z hz => ?_
  obtain ⟨ze, z0, zc, zg, ⟨⟩⟩ := z
  obtain ⟨a3, ag, m1, hm1⟩ := hz
  simp only at a3 ag hm1
  subst ag
  have hev := hI.ev a3
  refine auz hg ⟨m1, hm1⟩ (by show ze.evs.length ≤ _; omega) (by omega) fun eng2 he => ?_
  have ei : wi (i + 1) = i + 1 := aaQ (aau (by omega))
  have en : N + i.toNat + 1 = N + (i + 1).toNat := by omega
  rw [en] at a3 he
  show aaN (self (wi (i + 1), ze, z0, zc, _, ())) _
  rw [ei]
  exact ih _ ⟨by show 0 ≤ i + 1; omega, by show i + 1 ≤ _; omega, a3, he, m0 ++ m1, by show ze.evs = _; rw [hm1, hm, List.append_assoc]⟩ (by show _ - (i + 1).toNat < _ - i.toNat; omega)
theorem ax7 {c : Cfg} {env : EnvP} {w0 : WorkerV MV} {cl : ClientV MV} (h : MI c env) (hn : (env.m.cells.length : Int) = aaP c) : ∃ b : Bool, (∀ {α : Type} (K : Bool → EnvP → WorkerV MV → ClientV MV → Option α), ao1 env w0 cl K = K b env w0 cl) ∧ (b = true ↔ apx c env [w0] cl) := by
  obtain ⟨s, e1, h1⟩ := avy cl
  obtain ⟨s0, f0, g0⟩ := ajJ w0
  by_cases hs : s = 4
  · by_cases k0 : s0 = 2
    · refine ⟨false, fun K => ?_, fun k => (by cases k), fun k => absurd (g0.1 k0) (k.2.1 w0 (by simp))⟩
      unfold ao1
      rw [e1, bnd, if_neg (fun k => k hs), f0, bnd, if_pos k0]
    · obtain ⟨b, d1, d2⟩ := avw h.d hn
      have d3 : ∀ {α : Type} (K : Bool → MemV → Option α), aq8 env.l env.c.tasks env.m K = K b env.m := by rw [h.l, h.cc]; exact d1
      refine ⟨b, fun K => ?_, fun k => ⟨h1.1 hs, fun w hw => ?_, d2.1 k⟩, fun k => d2.2 k.2.2⟩
      · unfold ao1
        rw [e1, bnd, if_neg (fun k => k hs), f0, bnd, if_neg k0, aAx]
        exact d3 _
      · simp only [List.mem_cons, List.not_mem_nil, or_false] at hw
        subst hw
        exact fun k => k0 (g0.2 k)
  · refine ⟨false, fun K => ?_, fun k => (by cases k), fun k => absurd (h1.2 k.1) hs⟩
    unfold ao1
    rw [e1, bnd, if_pos hs]
theorem aFn {c : Cfg} {I : Nat → EnvP → List (WorkerV MV) → ClientV MV → Prop} (hI : EngI c I) {N : Nat} {env : EnvP} {w0 w1 : WorkerV MV} {cl : ClientV MV} {eng : ah0} {i : Int} {l : List EntV} (h : I N env [w0, w1] cl) (hN : N ≤ 100000) :
    aaN (anX l (i, env, w0, w1, cl, eng, ()) ((env.m.count, ()), (env.m, ()))) fun z => I (N + 1) z.1 [z.2.1, z.2.2.1] z.2.2.2.1 ∧ z.2.2.2.2.1 = eng ∧ ∃ l, z.1.evs = env.evs ++ l := by
  unfold anX
  refine aaN.ite (fun hk => ?_) fun hk => aaN.ite (fun _ => ?_) fun _ => aaN.ite (fun _ => ?_) fun _ => ?_
  · refine (ala (n := 3) (by decide) hk).bind fun o ho => ?_
    refine aaN.ite (fun _ => ?_) fun n2 => aaN.ite (fun _ => ?_) fun n1 => aaN.ite (fun _ => ?_) fun n0 => ?_
    · exact (hI.c h hN).bind fun o ho => .some_ ⟨ho.1, rfl, ho.2⟩
    · exact (hI.w h hN (j := 1) rfl).bind fun o ho => .some_ ⟨ho.1, rfl, ho.2⟩
    · exact (hI.w h hN (j := 0) rfl).bind fun o ho => .some_ ⟨ho.1, rfl, ho.2⟩
    · exfalso; have m0 : ¬ o.1.1 = ((0 : Nat) : Int) := n0; have m1 : ¬ o.1.1 = ((1 : Nat) : Int) := n1; have m2 : ¬ o.1.1 = ((2 : Nat) : Int) := n2; omega
  · exact ⟨_, rfl, hI.n (hI.k h), rfl, [], by simp⟩
  · exact ⟨_, rfl, hI.n (hI.k h), rfl, [], by simp⟩
  · exact ⟨_, rfl, hI.n h, rfl, [], by simp⟩
theorem aBs {c : Cfg} {I : Nat → EnvP → List (WorkerV MV) → ClientV MV → Prop} (hI : EngI c I) {N : Nat} {env : EnvP} {w0 w1 : WorkerV MV} {cl : ClientV MV} {eng : ah0} {l : List EntV} (h : I N env [w0, w1] cl) (hg : EG N env eng) (hN : N + l.length ≤ 100000) :
    aaN (lpF (akv l) 18446744073709551616 (0, env, w0, w1, cl, eng, ())) fun z => I (N + l.length) z.2.1 [z.2.2.1, z.2.2.2.1] z.2.2.2.2.1 ∧ EG (N + l.length) z.2.1 z.2.2.2.2.2.1 ∧ ∃ m, z.2.1.evs = env.evs ++ m := by
  refine acm (fun x => 0 ≤ x.1 ∧ x.1 ≤ (l.length : Int) ∧ I (N + x.1.toNat) x.2.1 [x.2.2.1, x.2.2.2.1] x.2.2.2.2.1 ∧ EG (N + x.1.toNat) x.2.1 x.2.2.2.2.2.1 ∧ ∃ m, x.2.1.evs = env.evs ++ m) (fun x => (l.length : Int).toNat - x.1.toNat) (fun self x hx ih => ?_) _ _ ?init (by show (l.length : Int).toNat - 0 < _; omega)
  case init => exact ⟨Int.le_refl 0, by show (0 : Int) ≤ _; omega, h, hg, [], by simp⟩
  obtain ⟨i, en2, w0, w1, cl, eng, ⟨⟩⟩ := x
  obtain ⟨q1, q2, h, hg, m0, hm⟩ := hx
  simp only at q1 q2 h hg hm
  unfold akv
  refine aaN.ite (fun hlt => ?_) fun hge => .some_ ?iend
  case iend =>
    have hge : ¬ i < (l.length : Int) := hge
    have : i.toNat = l.length := by omega
    rw [this] at h hg
    exact ⟨h, hg, m0, hm⟩
  have hlt : i < (l.length : Int) := hlt
  refine aaN.guard ⟨q1, hlt⟩ fun _ => ?_
  rw [alu, bnd]
  refine (aFn hI (i := i) (l := l) (eng := eng) h (by omega)).bind fun z hz => ?_
  obtain ⟨ze, z0, z1, zc, zg, ⟨⟩⟩ := z
  obtain ⟨a3, ag, m1, hm1⟩ := hz
  simp only at a3 ag hm1
  subst ag
  have hev := hI.ev a3
  refine auz hg ⟨m1, hm1⟩ (by show ze.evs.length ≤ _; omega) (by omega) fun eng2 he => ?_
  have ei : wi (i + 1) = i + 1 := aaQ (aau (by omega))
  have en : N + i.toNat + 1 = N + (i + 1).toNat := by omega
  rw [en] at a3 he
  show aaN (self (wi (i + 1), ze, z0, z1, zc, _, ())) _
  rw [ei]
  exact ih _ ⟨by show 0 ≤ i + 1; omega, by show i + 1 ≤ _; omega, a3, he, m0 ++ m1, by show ze.evs = _; rw [hm1, hm, List.append_assoc]⟩ (by show _ - (i + 1).toNat < _ - i.toNat; omega)
theorem ax6 {c : Cfg} {env : EnvP} {w0 w1 : WorkerV MV} {cl : ClientV MV} (h : MI c env) (hn : (env.m.cells.length : Int) = aaP c) : ∃ b : Bool, (∀ {α : Type} (K : Bool → EnvP → WorkerV MV → WorkerV MV → ClientV MV → Option α), amV env w0 w1 cl K = K b env w0 w1 cl) ∧ (b = true ↔ apx c env [w0, w1] cl) := by
  obtain ⟨s, e1, h1⟩ := avy cl
  obtain ⟨s0, f0, g0⟩ := ajJ w0
  obtain ⟨s1, f1, g1⟩ := ajJ w1
  by_cases hs : s = 4
  · by_cases k0 : s0 = 2
    · refine ⟨false, fun K => ?_, fun k => (by cases k), fun k => absurd (g0.1 k0) (k.2.1 w0 (by simp))⟩
      unfold amV
      rw [e1, bnd, if_neg (fun k => k hs), f0, bnd, if_pos k0]
    · by_cases k1 : s1 = 2
      · refine ⟨false, fun K => ?_, fun k => (by cases k), fun k => absurd (g1.1 k1) (k.2.1 w1 (by simp))⟩
        unfold amV
        rw [e1, bnd, if_neg (fun k => k hs), f0, bnd, if_neg k0, f1, bnd, if_pos k1]
      · obtain ⟨b, d1, d2⟩ := avw h.d hn
        have d3 : ∀ {α : Type} (K : Bool → MemV → Option α), aq8 env.l env.c.tasks env.m K = K b env.m := by rw [h.l, h.cc]; exact d1
        refine ⟨b, fun K => ?_, fun k => ⟨h1.1 hs, fun w hw => ?_, d2.1 k⟩, fun k => d2.2 k.2.2⟩
        · unfold amV
          rw [e1, bnd, if_neg (fun k => k hs), f0, bnd, if_neg k0, f1, bnd, if_neg k1, aAx]
          exact d3 _
        · simp only [List.mem_cons, List.not_mem_nil, or_false] at hw
          rcases hw with rfl | rfl
          · exact fun k => k0 (g0.2 k)
          · exact fun k => k1 (g1.2 k)
  · refine ⟨false, fun K => ?_, fun k => (by cases k), fun k => absurd (h1.2 k.1) hs⟩
    unfold amV
    rw [e1, bnd, if_pos hs]
theorem aFm {c : Cfg} {I : Nat → EnvP → List (WorkerV MV) → ClientV MV → Prop} (hI : EngI c I) {N : Nat} {env : EnvP} {w0 w1 w2 : WorkerV MV} {cl : ClientV MV} {eng : ah0} {i : Int} {l : List EntV} (h : I N env [w0, w1, w2] cl) (hN : N ≤ 100000) :
    aaN (anW l (i, env, w0, w1, w2, cl, eng, ()) ((env.m.count, ()), (env.m, ()))) fun z => I (N + 1) z.1 [z.2.1, z.2.2.1, z.2.2.2.1] z.2.2.2.2.1 ∧ z.2.2.2.2.2.1 = eng ∧ ∃ l, z.1.evs = env.evs ++ l := by
  unfold anW
  refine aaN.ite (fun hk => ?_) fun hk => aaN.ite (fun _ => ?_) fun _ => aaN.ite (fun _ => ?_) fun _ => ?_
  · refine (ala (n := 4) (by decide) hk).bind fun o ho => ?_
    refine aaN.ite (fun _ => ?_) fun n3 => aaN.ite (fun _ => ?_) fun n2 => aaN.ite (fun _ => ?_) fun n1 => aaN.ite (fun _ => ?_) fun n0 => ?_
    · exact (hI.c h hN).bind fun o ho => .some_ ⟨ho.1, rfl, ho.2⟩
    · exact (hI.w h hN (j := 2) rfl).bind fun o ho => .some_ ⟨ho.1, rfl, ho.2⟩
    · exact (hI.w h hN (j := 1) rfl).bind fun o ho => .some_ ⟨ho.1, rfl, ho.2⟩
    · exact (hI.w h hN (j := 0) rfl).bind fun o ho => .some_ ⟨ho.1, rfl, ho.2⟩
    · exfalso; have m0 : ¬ o.1.1 = ((0 : Nat) : Int) := n0; have m1 : ¬ o.1.1 = ((1 : Nat) : Int) := n1; have m2 : ¬ o.1.1 = ((2 : Nat) : Int) := n2; have m3 : ¬ o.1.1 = ((3 : Nat) : Int) := n3; omega
  · exact ⟨_, rfl, hI.n (hI.k h), rfl, [], by simp⟩
  · exact ⟨_, rfl, hI.n (hI.k h), rfl, [], by simp⟩
  · exact ⟨_, rfl, hI.n h, rfl, [], by simp⟩
theorem aBr {c : Cfg} {I : Nat → EnvP → List (WorkerV MV) → ClientV MV → Prop} (hI : EngI c I) {N : Nat} {env : EnvP} {w0 w1 w2 : WorkerV MV} {cl : ClientV MV} {eng : ah0} {l : List EntV} (h : I N env [w0, w1, w2] cl) (hg : EG N env eng) (hN : N + l.length ≤ 100000) :
    aaN (lpF (aku l) 18446744073709551616 (0, env, w0, w1, w2, cl, eng, ())) fun z => I (N + l.length) z.2.1 [z.2.2.1, z.2.2.2.1, z.2.2.2.2.1] z.2.2.2.2.2.1 ∧ EG (N + l.length) z.2.1 z.2.2.2.2.2.2.1 ∧ ∃ m, z.2.1.evs = env.evs ++ m := by
  refine acm (fun x => 0 ≤ x.1 ∧ x.1 ≤ (l.length : Int) ∧ I (N + x.1.toNat) x.2.1 [x.2.2.1, x.2.2.2.1, x.2.2.2.2.1] x.2.2.2.2.2.1 ∧ EG (N + x.1.toNat) x.2.1 x.2.2.2.2.2.2.1 ∧ ∃ m, x.2.1.evs = env.evs ++ m) (fun x => (l.length : Int).toNat - x.1.toNat) (fun self x hx ih => ?_) _ _ ?init (by show (l.length : Int).toNat - 0 < _; omega)
  case init => exact ⟨Int.le_refl 0, by show (0 : Int) ≤ _; omega, h, hg, [], by simp⟩
  obtain ⟨i, en2, w0, w1, w2, cl, eng, ⟨⟩⟩ := x
  obtain ⟨q1, q2, h, hg, m0, hm⟩ := hx
  simp only at q1 q2 h hg hm
  unfold aku
  refine aaN.ite (fun hlt => ?_) fun hge => .some_ ?iend
  case iend =>
    have hge : ¬ i < (l.length : Int) := hge
    have : i.toNat = l.length := by omega
    rw [this] at h hg
    exact ⟨h, hg, m0, hm⟩
  have hlt : i < (l.length : Int) := hlt
  refine aaN.guard ⟨q1, hlt⟩ fun _ => ?_
  rw [alu, bnd]
  refine (aFm hI (i := i) (l := l) (eng := eng) h (by omega)).bind fun z hz => ?_
  obtain ⟨ze, z0, z1, z2, zc, zg, ⟨⟩⟩ := z
  obtain ⟨a3, ag, m1, hm1⟩ := hz
  simp only at a3 ag hm1
  subst ag
  have hev := hI.ev a3
  refine auz hg ⟨m1, hm1⟩ (by show ze.evs.length ≤ _; omega) (by omega) fun eng2 he => ?_
  have ei : wi (i + 1) = i + 1 := aaQ (aau (by omega))
  have en : N + i.toNat + 1 = N + (i + 1).toNat := by omega
  rw [en] at a3 he
  show aaN (self (wi (i + 1), ze, z0, z1, z2, zc, _, ())) _
  rw [ei]
  exact ih _ ⟨by show 0 ≤ i + 1; omega, by show i + 1 ≤ _; omega, a3, he, m0 ++ m1, by show ze.evs = _; rw [hm1, hm, List.append_assoc]⟩ (by show _ - (i + 1).toNat < _ - i.toNat; omega)
theorem ax5 {c : Cfg} {env : EnvP} {w0 w1 w2 : WorkerV MV} {cl : ClientV MV} (h : MI c env) (hn : (env.m.cells.length : Int) = aaP c) : ∃ b : Bool, (∀ {α : Type} (K : Bool → EnvP → WorkerV MV → WorkerV MV → WorkerV MV → ClientV MV → Option α), alt env w0 w1 w2 cl K = K b env w0 w1 w2 cl) ∧ (b = true ↔ apx c env [w0, w1, w2] cl) := by
  obtain ⟨s, e1, h1⟩ := avy cl
  obtain ⟨s0, f0, g0⟩ := ajJ w0
  obtain ⟨s1, f1, g1⟩ := ajJ w1
  obtain ⟨s2, f2, g2⟩ := ajJ w2
  by_cases hs : s = 4
  · by_cases k0 : s0 = 2
    · refine ⟨false, fun K => ?_, fun k => (by cases k), fun k => absurd (g0.1 k0) (k.2.1 w0 (by simp))⟩
      unfold alt
      rw [e1, bnd, if_neg (fun k => k hs), f0, bnd, if_pos k0]
    · by_cases k1 : s1 = 2
      · refine ⟨false, fun K => ?_, fun k => (by cases k), fun k => absurd (g1.1 k1) (k.2.1 w1 (by simp))⟩
        unfold alt
        rw [e1, bnd, if_neg (fun k => k hs), f0, bnd, if_neg k0, f1, bnd, if_pos k1]
      · by_cases k2 : s2 = 2
        · refine ⟨false, fun K => ?_, fun k => (by cases k), fun k => absurd (g2.1 k2) (k.2.1 w2 (by simp))⟩
          unfold alt
          rw [e1, bnd, if_neg (fun k => k hs), f0, bnd, if_neg k0, f1, bnd, if_neg k1, f2, bnd, if_pos k2]
        · obtain ⟨b, d1, d2⟩ := avw h.d hn
          have d3 : ∀ {α : Type} (K : Bool → MemV → Option α), aq8 env.l env.c.tasks env.m K = K b env.m := by rw [h.l, h.cc]; exact d1
          refine ⟨b, fun K => ?_, fun k => ⟨h1.1 hs, fun w hw => ?_, d2.1 k⟩, fun k => d2.2 k.2.2⟩
          · unfold alt
            rw [e1, bnd, if_neg (fun k => k hs), f0, bnd, if_neg k0, f1, bnd, if_neg k1, f2, bnd, if_neg k2, aAx]
            exact d3 _
          · simp only [List.mem_cons, List.not_mem_nil, or_false] at hw
            rcases hw with rfl | rfl | rfl
            · exact fun k => k0 (g0.2 k)
            · exact fun k => k1 (g1.2 k)
            · exact fun k => k2 (g2.2 k)
  · refine ⟨false, fun K => ?_, fun k => (by cases k), fun k => absurd (h1.2 k.1) hs⟩
    unfold alt
    rw [e1, bnd, if_pos hs]
theorem aFl {c : Cfg} {I : Nat → EnvP → List (WorkerV MV) → ClientV MV → Prop} (hI : EngI c I) {N : Nat} {env : EnvP} {w0 w1 w2 w3 : WorkerV MV} {cl : ClientV MV} {eng : ah0} {i : Int} {l : List EntV} (h : I N env [w0, w1, w2, w3] cl) (hN : N ≤ 100000) :
    aaN (anV l (i, env, w0, w1, w2, w3, cl, eng, ()) ((env.m.count, ()), (env.m, ()))) fun z => I (N + 1) z.1 [z.2.1, z.2.2.1, z.2.2.2.1, z.2.2.2.2.1] z.2.2.2.2.2.1 ∧ z.2.2.2.2.2.2.1 = eng ∧ ∃ l, z.1.evs = env.evs ++ l := by
  unfold anV
  refine aaN.ite (fun hk => ?_) fun hk => aaN.ite (fun _ => ?_) fun _ => aaN.ite (fun _ => ?_) fun _ => ?_
  · refine (ala (n := 5) (by decide) hk).bind fun o ho => ?_
    refine aaN.ite (fun _ => ?_) fun n4 => aaN.ite (fun _ => ?_) fun n3 => aaN.ite (fun _ => ?_) fun n2 => aaN.ite (fun _ => ?_) fun n1 => aaN.ite (fun _ => ?_) fun n0 => ?_
    · exact (hI.c h hN).bind fun o ho => .some_ ⟨ho.1, rfl, ho.2⟩
    · exact (hI.w h hN (j := 3) rfl).bind fun o ho => .some_ ⟨ho.1, rfl, ho.2⟩
    · exact (hI.w h hN (j := 2) rfl).bind fun o ho => .some_ ⟨ho.1, rfl, ho.2⟩
    · exact (hI.w h hN (j := 1) rfl).bind fun o ho => .some_ ⟨ho.1, rfl, ho.2⟩
    · exact (hI.w h hN (j := 0) rfl).bind fun o ho => .some_ ⟨ho.1, rfl, ho.2⟩
    · exfalso; have m0 : ¬ o.1.1 = ((0 : Nat) : Int) := n0; have m1 : ¬ o.1.1 = ((1 : Nat) : Int) := n1; have m2 : ¬ o.1.1 = ((2 : Nat) : Int) := n2; have m3 : ¬ o.1.1 = ((3 : Nat) : Int) := n3; have m4 : ¬ o.1.1 = ((4 : Nat) : Int) := n4; omega
  · exact ⟨_, rfl, hI.n (hI.k h), rfl, [], by simp⟩
  · exact ⟨_, rfl, hI.n (hI.k h), rfl, [], by simp⟩
  · exact ⟨_, rfl, hI.n h, rfl, [], by simp⟩
theorem aBq {c : Cfg} {I : Nat → EnvP → List (WorkerV MV) → ClientV MV → Prop} (hI : EngI c I) {N : Nat} {env : EnvP} {w0 w1 w2 w3 : WorkerV MV} {cl : ClientV MV} {eng : ah0} {l : List EntV} (h : I N env [w0, w1, w2, w3] cl) (hg : EG N env eng) (hN : N + l.length ≤ 100000) :
    aaN (lpF (akt l) 18446744073709551616 (0, env, w0, w1, w2, w3, cl, eng, ())) fun z => I (N + l.length) z.2.1 [z.2.2.1, z.2.2.2.1, z.2.2.2.2.1, z.2.2.2.2.2.1] z.2.2.2.2.2.2.1 ∧ EG (N + l.length) z.2.1 z.2.2.2.2.2.2.2.1 ∧ ∃ m, z.2.1.evs = env.evs ++ m := by
  refine acm (fun x => 0 ≤ x.1 ∧ x.1 ≤ (l.length : Int) ∧ I (N + x.1.toNat) x.2.1 [x.2.2.1, x.2.2.2.1, x.2.2.2.2.1, x.2.2.2.2.2.1] x.2.2.2.2.2.2.1 ∧ EG (N + x.1.toNat) x.2.1 x.2.2.2.2.2.2.2.1 ∧ ∃ m, x.2.1.evs = env.evs ++ m) (fun x => (l.length : Int).toNat - x.1.toNat) (fun self x hx ih => ?_) _ _ ?init (by show (l.length : Int).toNat - 0 < _; omega)
  case init => exact ⟨Int.le_refl 0, by show (0 : Int) ≤ _; omega, h, hg, [], by simp⟩
  obtain ⟨i, en2, w0, w1, w2, w3, cl, eng, ⟨⟩⟩ := x
  obtain ⟨q1, q2, h, hg, m0, hm⟩ := hx
  simp only at q1 q2 h hg hm
  unfold akt
  refine aaN.ite (fun hlt => ?_) fun hge => .some_ ?iend
  case iend =>
    have hge : ¬ i < (l.length : Int) := hge
    have : i.toNat = l.length := by omega
    rw [this] at h hg
    exact ⟨h, hg, m0, hm⟩
  have hlt : i < (l.length : Int) := hlt
  refine aaN.guard ⟨q1, hlt⟩ fun _ => ?_
  rw [alu, bnd]
  refine (aFl hI (i := i) (l := l) (eng := eng) h (by omega)).bind fun z hz => ?_
  obtain ⟨ze, z0, z1, z2, z3, zc, zg, ⟨⟩⟩ := z
  obtain ⟨a3, ag, m1, hm1⟩ := hz
  simp only at a3 ag hm1
  subst ag
  have hev := hI.ev a3
  refine auz hg ⟨m1, hm1⟩ (by show ze.evs.length ≤ _; omega) (by omega) fun eng2 he => ?_
  have ei : wi (i + 1) = i + 1 := aaQ (aau (by omega))
  have en : N + i.toNat + 1 = N + (i + 1).toNat := by omega
  rw [en] at a3 he
  show aaN (self (wi (i + 1), ze, z0, z1, z2, z3, zc, _, ())) _
  rw [ei]
  exact ih _ ⟨by show 0 ≤ i + 1; omega, by show i + 1 ≤ _; omega, a3, he, m0 ++ m1, by show ze.evs = _; rw [hm1, hm, List.append_assoc]⟩ (by show _ - (i + 1).toNat < _ - i.toNat; omega)
theorem ax4 {c : Cfg} {env : EnvP} {w0 w1 w2 w3 : WorkerV MV} {cl : ClientV MV} (h : MI c env) (hn : (env.m.cells.length : Int) = aaP c) : ∃ b : Bool, (∀ {α : Type} (K : Bool → EnvP → WorkerV MV → WorkerV MV → WorkerV MV → WorkerV MV → ClientV MV → Option α), ajU env w0 w1 w2 w3 cl K = K b env w0 w1 w2 w3 cl) ∧ (b = true ↔ apx c env [w0, w1, w2, w3] cl) := by
  obtain ⟨s, e1, h1⟩ := avy cl
  obtain ⟨s0, f0, g0⟩ := ajJ w0
  obtain ⟨s1, f1, g1⟩ := ajJ w1
  obtain ⟨s2, f2, g2⟩ := ajJ w2
  obtain ⟨s3, f3, g3⟩ := ajJ w3
  by_cases hs : s = 4
  · by_cases k0 : s0 = 2
    · refine ⟨false, fun K => ?_, fun k => (by cases k), fun k => absurd (g0.1 k0) (k.2.1 w0 (by simp))⟩
      unfold ajU
      rw [e1, bnd, if_neg (fun k => k hs), f0, bnd, if_pos k0]
    · by_cases k1 : s1 = 2
      · refine ⟨false, fun K => ?_, fun k => (by cases k), fun k => absurd (g1.1 k1) (k.2.1 w1 (by simp))⟩
        unfold ajU
        rw [e1, bnd, if_neg (fun k => k hs), f0, bnd, if_neg k0, f1, bnd, if_pos k1]
      · by_cases k2 : s2 = 2
        · refine ⟨false, fun K => ?_, fun k => (by cases k), fun k => absurd (g2.1 k2) (k.2.1 w2 (by simp))⟩
          unfold ajU
          rw [e1, bnd, if_neg (fun k => k hs), f0, bnd, if_neg k0, f1, bnd, if_neg k1, f2, bnd, if_pos k2]
        · by_cases k3 : s3 = 2
          · refine ⟨false, fun K => ?_, fun k => (by cases k), fun k => absurd (g3.1 k3) (k.2.1 w3 (by simp))⟩
            unfold ajU
            rw [e1, bnd, if_neg (fun k => k hs), f0, bnd, if_neg k0, f1, bnd, if_neg k1, f2, bnd, if_neg k2, f3, bnd, if_pos k3]
          · obtain ⟨b, d1, d2⟩ := avw h.d hn
            have d3 : ∀ {α : Type} (K : Bool → MemV → Option α), aq8 env.l env.c.tasks env.m K = K b env.m := by rw [h.l, h.cc]; exact d1
            refine ⟨b, fun K => ?_, fun k => ⟨h1.1 hs, fun w hw => ?_, d2.1 k⟩, fun k => d2.2 k.2.2⟩
            · unfold ajU
              rw [e1, bnd, if_neg (fun k => k hs), f0, bnd, if_neg k0, f1, bnd, if_neg k1, f2, bnd, if_neg k2, f3, bnd, if_neg k3, aAx]
              exact d3 _
            · simp only [List.mem_cons, List.not_mem_nil, or_false] at hw
              rcases hw with rfl | rfl | rfl | rfl
              · exact fun k => k0 (g0.2 k)
              · exact fun k => k1 (g1.2 k)
              · exact fun k => k2 (g2.2 k)
              · exact fun k => k3 (g3.2 k)
  · refine ⟨false, fun K => ?_, fun k => (by cases k), fun k => absurd (h1.2 k.1) hs⟩
    unfold ajU
    rw [e1, bnd, if_pos hs]
section
variable {c : Cfg} {N : Nat} {e e' e0 : EnvP} {w : Int}
theorem ave (h : MI c e) (hS : ∀ t, TOk c t → Stt c e t ≠ 1) {t : Int} : ¬ adX t e = true := fun hb => by
  unfold adX at hb
  rw [h.l] at hb
  exact hS t (aBo h.d (f := 0) (by omega) hb) (asA hb).1
theorem aDc {e : EnvP} : ∀ s, atX e ≠ .t7 s := by
  intro s
  unfold atX
  split
  · exact fun k => by cases k
  · exact fun k => by cases k
theorem awA {k : WorkS} (h : MI c e) (hk : as5 c k) (h7 : ∀ s, k.c ≠ .t7 s) (hS : ∀ t, TOk c t → Stt c e t ≠ 1) : Qs c e (acw w e k).2 ∧ ∀ s, (acw w e k).1.c ≠ .t7 s := by
  have hB := (atc (w := w) h hk).1
  have hB7 : ∀ s, abL w e k ≠ .t7 s := by
    intro s
    unfold abL
    obtain ⟨a, b, d, x, g⟩ := k
    cases g with
    | top =>
      simp only
      split
      · exact fun k => by cases k
      · exact fun k => by cases k
    | t7 s => exact absurd rfl (h7 s)
    | _ => exact fun k => by cases k
  have ite : ∀ {P : Prop} [Decidable P] {a b : WorkS × EnvP}, (P → Qs c e a.2 ∧ ∀ s, a.1.c ≠ .t7 s) → (¬ P → Qs c e b.2 ∧ ∀ s, b.1.c ≠ .t7 s) → Qs c e (if P then a else b).2 ∧ ∀ s, (if P then a else b).1.c ≠ .t7 s := fun h1 h2 => by
    split
    · exact h1 ‹_›
    · exact h2 ‹_›
  have ite1 : ∀ {P : Prop} [Decidable P] {a b : WorkS} {e' : EnvP}, (P → Qs c e e' ∧ ∀ s, a.c ≠ .t7 s) → (¬ P → Qs c e e' ∧ ∀ s, b.c ≠ .t7 s) → Qs c e e' ∧ ∀ s, (if P then a else b).c ≠ .t7 s := fun h1 h2 => by
    split
    · exact h1 ‹_›
    · exact h2 ‹_›
  unfold acw
  revert hB hB7
  generalize abL w e k = kc
  intro h1 h2
  cases kc with
  | top => exact ⟨.refl, h7⟩
  | t1 t s =>
    have := awL (w := w) (t := t) h s h1.2
    simp only
    revert this
    rcases abp w t e s with ⟨o, e'⟩
    intro this
    cases o with
    | go s => exact ⟨this, fun s k => by cases k⟩
    | fin c0 v0 => exact ⟨this, fun s k => by cases k⟩
  | t2 s =>
    cases s with
    | pop s =>
      have := aBk (w := w) h s
      simp only [ajA]
      revert this
      rcases agT w e s with ⟨o, e'⟩
      intro this
      cases o with
      | go s => exact ⟨this, fun s k => by cases k⟩
      | fin c0 v0 =>
        simp only
        by_cases hc : c0 = 2
        · rw [if_pos hc]; exact ⟨this, fun s k => by cases k⟩
        · rw [if_neg hc]; exact ⟨this, fun s k => by cases k⟩
    | claim t =>
      have hb : ¬ adX t e = true := ave h hS
      simp only [ajA]
      rw [if_neg hb]
      exact ⟨ajw h.d h.l hb, fun s k => by cases k⟩
  | t3 s =>
    have := ayq (w := w) h s h1
    simp only
    revert this
    rcases abJ w e s with ⟨o, e'⟩
    intro this
    cases o with
    | go s => exact ⟨this, fun s k => by cases k⟩
    | fin c0 v0 =>
      refine ite1 (fun hc => ⟨this, fun s k => by cases k⟩) fun _ => ite1 (fun _ => ⟨this, fun s k => by cases k⟩) fun _ => ⟨this, aDc⟩
  | t4 s =>
    have := axm (c := c) (w := w) (e := e) s
    simp only
    revert this
    rcases aiy w e s with ⟨o, e'⟩
    intro this
    cases o with
    | go s => exact ⟨this, fun s k => by cases k⟩
    | fin c0 v0 => exact ite1 (fun hc => ⟨this, fun s k => by cases k⟩) fun _ => ⟨this, fun s k => by cases k⟩
  | t5 s =>
    have := awP (w := k.victim) (v := k.level) h s
    simp only
    rw [h.l]
    revert this
    rcases ag1 (aaw (aao c) k.victim k.level) e s with ⟨o, e'⟩
    intro this
    cases o with
    | go s => exact ⟨this, fun s k => by cases k⟩
    | fin c0 v0 => exact ite (fun hc => ⟨this.em (by omega), fun s k => by cases k⟩) fun _ => ite (fun _ => ⟨this, fun s k => by cases k⟩) fun _ => ⟨this, fun s k => by cases k⟩
  | t6 =>
    have hb : ¬ adX k.x e = true := ave h hS
    simp only
    rw [if_neg hb]
    exact ⟨ajw h.d h.l hb, fun s k => by cases k⟩
  | t7 s => exact absurd rfl (h2 s)
  | t8 s =>
    have := awX (w := w) h s
    simp only
    revert this
    rcases afn w e s with ⟨o, e'⟩
    intro this
    cases o with
    | go s => exact ⟨this, fun s k => by cases k⟩
    | fin c0 v0 => exact ⟨this, fun s k => by cases k⟩
  | t9 s =>
    have := ato (w := k.victim) (v := k.level) (a := k.victim) (b := k.level) h s
    simp only
    rw [h.l]
    revert this
    rcases afo (aaI (aao c) k.victim) k.level (aaw (aao c) k.victim k.level) e s with ⟨o, e'⟩
    intro this
    cases o with
    | go s => exact ⟨this, fun s k => by cases k⟩
    | fin c0 v0 => exact ⟨this, fun s k => by cases k⟩
structure JD (c : Cfg) (e0 : EnvP) (N : Nat) (e : EnvP) (ws : List (WorkerV MV)) (cl : ClientV MV) : Prop where
  ei : EI c (1 + 3 * N) e
  m : MI c e
  n : (e.m.cells.length : Int) = aaP c
  nx : e.gt 0 = e0.gt 0
  st : ∀ t, Stt c e t = Stt c e0 t
  s1 : ∀ t, TOk c t → Stt c e0 t ≠ 1
  ev : ∃ l, e.evs = e0.evs ++ l ∧ ∀ x ∈ l, 11 ≤ x.kind
  ws : ∀ (j : Nat) w, ws[j]? = some w → ∃ k, w = adl (aao c) j k ∧ aht (1 + 3 * N) (mnC c) k ∧ as5 c k ∧ ∀ s, k.c ≠ .t7 s
  cl : ∃ k, cl = ahS c.subs c.workers k ∧ ay8 c k ∧ (c.subs.length : Int) ≤ k.i
theorem amR : EngI c (JD c e0) where
  w {N e ws cl j w} h hN hj := by
    obtain ⟨k, rfl, hk, hg, h7⟩ := h.ws j w hj
    have hl := ax3 hj
    have hS : ∀ t, TOk c t → Stt c e t ≠ 1 := fun t ht => by rw [h.st]; exact h.s1 t ht
    rw [← h.ei.many] at hk
    have h1 := auu (w := (j : Int)) h.ei.ok (by omega) k hk
    have h2 := awz (w := (j : Int)) h.ei.ok k
    have h3 := awy (w := (j : Int)) h.ei.ok k hk (by omega)
    have h4 := aA2 (w := (j : Int)) h.m h.n hg
    have h5 := awA (w := (j : Int)) h.m hg h7 hS
    rw [h.ei.many] at h3
    rw [h.ei.l] at h1
    have s1 := h.ei.stp (by omega) h2
    have en : 1 + 3 * N + 3 = 1 + 3 * (N + 1) := by omega
    rw [en] at s1
    obtain ⟨l, e1, e2⟩ := h5.1.ev
    obtain ⟨l0, q1, q2⟩ := h.ev
    refine ⟨_, h1, ⟨s1, h4.1.i, by rw [(axN h2.m h.ei.ct (by omega)).2]; exact h.n, h5.1.nx.trans h.nx, fun t => (h5.1.st t).trans (h.st t), h.s1, ⟨l0 ++ l, ?_, fun x hx => ?_⟩, fun i u hu => ?_, h.cl⟩, l, e1⟩
    · show (acw j e k).2.evs = _
      rw [e1, q1, List.append_assoc]
    · rcases List.mem_append.1 hx with hx | hx
      · exact q2 x hx
      · exact e2 x hx
    · by_cases hij : i = j
      · subst hij
        rw [List.getElem?_set_self hl] at hu
        exact ⟨_, (Option.some.inj hu).symm, h3.up (by omega), h4.2, h5.2⟩
      · rw [List.getElem?_set_ne (fun k => hij k.symm)] at hu
        obtain ⟨k, g1, g2, g3⟩ := h.ws i u hu
        exact ⟨k, g1, g2.up (by omega), g3⟩
  c {N e ws cl} h hN := by
    obtain ⟨k, rfl, hk, hi⟩ := h.cl
    have h1 := avG (subs := c.subs) (me := c.workers) h.ei.ok (by omega) k hk.1
    have e1 : ao7 c.subs c.workers e k = (true, k, e) := by unfold ao7; rw [if_pos hi]
    unfold aDM at h1
    rw [e1] at h1
    refine ⟨_, h1, ⟨h.ei.up (by omega), h.m, h.n, h.nx, h.st, h.s1, h.ev, fun i u hu => ?_, k, rfl, hk, hi⟩, [], by simp⟩
    obtain ⟨k, g1, g2, g3⟩ := h.ws i u hu
    exact ⟨k, g1, g2.up (by omega), g3⟩
  n {N e ws cl} h := ⟨h.ei.up (by omega), h.m, h.n, h.nx, h.st, h.s1, h.ev, fun i u hu => by
    obtain ⟨k, g1, g2, g3⟩ := h.ws i u hu
    exact ⟨k, g1, g2.up (by omega), g3⟩, h.cl⟩
  k {N e ws cl k} h := ⟨h.ei.clk, h.m.ex, h.n, h.nx, h.st, h.s1, h.ev, h.ws, h.cl⟩
  ev {N e ws cl} h := h.ei.ok.ev
variable {ws : List (WorkerV MV)} {cl : ClientV MV}
theorem aAr (h : JL c N e ws cl) (hd : apx c e ws cl) : JD c e N e ws cl := by
  obtain ⟨vs, h1, h2, h3⟩ := h
  obtain ⟨d1, d2, d3⟩ := hd
  refine ⟨h1.ei, h1.m, h1.n, rfl, fun _ => rfl, fun t ht hS => ?_, ⟨[], by simp, fun x hx => by cases hx⟩, fun j w hj => ?_, ?_⟩
  · obtain ⟨rl, ts, la⟩ := h1.li
    obtain ⟨c1, c2, c3⟩ := la.cl t ht
    have hN : t < e.gt 0 := by
      refine Int.not_le.1 fun k => ?_
      have := c2.2 k
      rw [this] at c3
      have c4 : Stt c e t = 0 := c3.1
      omega
    have := d3 t ht.1 ht.2 hN
    omega
  · obtain ⟨k, rfl, hk, hg, _⟩ := h2 j w hj
    refine ⟨k, rfl, hk, hg, fun s hs => ?_⟩
    refine d2 _ (List.mem_of_getElem? hj) ?_
    show (awB (aao c) j k.victim k.level k.x k.c).1 = 7
    rw [hs]
  · obtain ⟨k, rfl, hk, _⟩ := h3
    exact ⟨k, rfl, hk, d1⟩
theorem JD.done (h : JD c e0 N e ws cl) (h0 : aur c e0) : apx c e ws cl := by
  refine ⟨?_, fun w hw h7 => ?_, fun t q1 q2 q3 => ?_⟩
  · obtain ⟨k, rfl, _, hi⟩ := h.cl
    exact hi
  · obtain ⟨j, hj⟩ := List.getElem?_of_mem hw
    obtain ⟨k, rfl, _, _, h8⟩ := h.ws j w hj
    obtain ⟨a, b, d, x, g⟩ := k
    cases g with
    | t7 s => exact h8 s rfl
    | _ => dsimp only at h7; omega
  · rw [h.nx] at q3
    rw [h.st]
    exact h0 t q1 q2 q3
end
end
end Go.Proofs.YtclaldommncdbaaGreat
