/- EngineDone by names. EngineDone by names. EngineDone by names. EngineDone by names. EngineDone, for each number of workers. -/
import Derived.Test.YtclaldommncdbaaGreatDqas
set_option linter.all false
namespace Go.Proofs.YtclaldommncdbaaGreat
section
open Go Go.RowKit
set_option maxRecDepth 100000
variable [Tb]
noncomputable def att (y1 : List Int) (c : Cfg) (self : aj1 → Option (aj1)) (x : aj1) : Option (aj1) :=
 ((
  if x.1 < 300 then
   ao1 x.2.1 x.2.2.1 x.2.2.2.1 fun b e w0 cl => match b with
    | false => some (Sum.inl (e, w0, cl, x.2.2.2.2.1, ()))
    | true => Option.map Sum.inr (some (x.1, e, w0, cl, x.2.2.2.2.1, ()))
  else Option.map Sum.inr (some x)
 ) : Option ((EnvP × (WorkerV MV) × (ClientV MV) × ah0 × Unit) ⊕ aj1)).bind fun z => match z with
 | .inr o => some o
 | .inl z =>
  (abz y1 (wi (7 * x.1)) (wi (c.workers + 1))).bind fun r =>
  (lpF (akw r.1.1) 18446744073709551616 (0, z.1, z.2.1, z.2.2.1, z.2.2.2.1, ())).bind fun z2 =>
  self (wi (x.1 + 1), z2.2.1, z2.2.2.1, z2.2.2.2.1, z2.2.2.2.2.1, ())
def eI1 : List Itm := [.ob 19 27, .ob 33 31, .ob 21 30, .cx 22 [.inr (.ptr 19 0), .inr (.sl 35), .inr (.ptr 21 0), .inr (.sl 61), .inl sI_, .inl (.row 1), .inl sI_, .inl sI_, .inl sU_, .inl sU_]]
noncomputable def abh (y0 : List Int) (y1 : List Int) (y2 : List Int) : Option ((Bool × Unit) × (Unit)) :=
 (aoN y0 ([y1])).bind fun r1 =>
 if (!r1.1.1) = true then some ((true, ()), (()))
 else
 if 600 < ((y2.length : Nat) : Int) then some ((true, ()), (()))
 else
 (afG y0).bind fun r2 =>
 (ad1 r2.1.1).bind fun r3 =>
 if r3.1.2.1 ≠ 0 then
  if r3.1.2.1 ≠ 0 then
   (aaB).bind fun r4 =>
   if (!r4.1.1) = true then some ((false, ()), (()))
   else some ((false, ()), (()))
  else
  (aaB).bind fun r5 =>
  if (!r5.1.1) = true then some ((false, ()), (()))
  else some ((false, ()), (()))
 else
 (afy r2.1.1).bind fun r6 =>
 if r2.1.1.workers = ((1 : Nat) : Int) then
  (ac8 0).bind fun w0 =>
  (lpF (aFS (α := EnvP × (WorkerV MV) × (ClientV MV) × ah0 × Unit)) 18446744073709551616 (0, r3.1.1, w0.1.1, r6.1.1, (0, [], 0, 0, 0, 0, ()), ())).bind fun z9 =>
  (aaB).bind fun r11 =>
  if (!r11.1.1) = true then some ((false, ()), (()))
  else
  (lpF (att y1 r2.1.1) 18446744073709551616 (0, z9.2.1, z9.2.2.1, z9.2.2.2.1, z9.2.2.2.2.1, ())).bind fun z =>
  ((ao1 z.2.1 z.2.2.1 z.2.2.2.1 fun b e w0 cl => some (!b, e, w0, cl, z.2.2.2.2.1, ())) : Option (Bool × EnvP × (WorkerV MV) × (ClientV MV) × ah0 × Unit)).bind fun z =>
  if z.1 = true then some ((true, ()), (()))
  else
  (lpF (aze z.2.1.evs) 18446744073709551616 (0, [], z.2.2.2.2.1, ())).bind fun p =>
  (ake y2 300).bind fun r =>
  (lpF (akw r.1.1) 18446744073709551616 (0, z.2.1, z.2.2.1, z.2.2.2.1, p.2.2.1, ())).bind fun z =>
  (lpF (aze z.2.1.evs) 18446744073709551616 (0, [], z.2.2.2.2.1, ())).bind fun q =>
  (lpF (aDY q.2.1) 18446744073709551616 (((p.2.1.length : Nat) : Int), ())).bind fun s => match s with
  | .inr o => some o
  | .inl _ =>
  ao1 z.2.1 z.2.2.1 z.2.2.2.1 fun b _ _ _ => some ((b, ()), ())
 else
 none
noncomputable abbrev agf : Con SR1 := ⟨4, [.sh (.ro 17), .sh (.ro 1), .sh (.ro 17)], [.sh .b], fun x => abh x.1 x.2.1 x.2.2.1⟩
noncomputable def afX : List (Nat × Func) := [(9, Tryz.f9), (22, Tryz.f22), (41, Tryz.f41), (16, Tryz.f16), (15, Tryz.f15), (31, Tryz.f31), (50, Tryz.f50), (30, Tryz.f30), (32, Tryz.f32), (23, Tryz.f23), (18, Tryz.f18)]
theorem afY : CO Tryz.prog agf := aal aak Tryz.func4 [aln, ahj, aew, ab0, ae4, aeW, abH, abG, aka, adL, aco, abR, ac9, ach, ab7, acQ, adj, acd, aiO] ⟨alm, ahi, aeI, acL, afx, afk, ab5, ab1, ajj, adc, acS, acp, adu, acI, acB, adi, adx, acE, ajn, trivial⟩ afX ⟨Tryz.func9, Tryz.func22, Tryz.func41, Tryz.func16, Tryz.func15, Tryz.func31, Tryz.func50, Tryz.func30, Tryz.func32, Tryz.func23, Tryz.func18, trivial⟩ (fun f => (get [(22, [(6, .spl 22 [1] 2)]), (41, [(2, .unroll 2)]), (16, [(1, .loop (.rg 8 sI_ :: eI1) 18446744073709551616 0)]), (15, [(6, .loopR [.rg 6 sI_, .ob 100 9] 18446744073709551616 0), (6, .loopR [.rg 6 sI_, .ob 110 9] 18446744073709551616 0)]), (50, [(2, .unroll 2)]), (23, [(9, .cut eI1 [0, 1, 2, 3, 14, 15, 68, 69, 70]), (9, .cut eI1 [0, 1, 2, 3, 14, 15, 72, 73, 74]), (12, .loop [.ob 19 27, .cx 22 [.inr (.ptr 19 0), .inr (.sl 35), .inr (.ptr 21 0), .inr (.sl 61), .inl sI_, .inl (.row 1), .inl sI_, .inl sI_, .inl sU_, .inl sU_]] 18446744073709551616 1)]), (18, [(3, .loop [.rg 14 sI_, .rg 3 (.row 6), .cx 22 [.inr (.ptr 19 0), .inr (.sl 35), .inr (.ptr 21 0), .inr (.sl 61), .inl sI_, .inl (.row 1), .inl sI_, .inl sI_, .inl sU_, .inl sU_]] 18446744073709551616 0)])] f).getD []) [(8, .loop (.rg 9 sI_ :: eI1) 18446744073709551616 0), (10, .cutR eI1 [0, 1, 2, 3, 14, 15]), (12, .cut (.rg 54 .b :: eI1) [0, 1, 2, 3, 14, 15, 16, 17, 18, 35, 36, 61, 62]), (17, .loopR [.rg 12 sI_] 18446744073709551616 2), (21, .cut [.rg 102 .b] [])] fun x => by kernel_rfl
noncomputable def ats (y1 : List Int) (c : Cfg) (self : aj0 → Option (aj0)) (x : aj0) : Option (aj0) :=
 ((
  if x.1 < 300 then
   amV x.2.1 x.2.2.1 x.2.2.2.1 x.2.2.2.2.1 fun b e w0 w1 cl => match b with
    | false => some (Sum.inl (e, w0, w1, cl, x.2.2.2.2.2.1, ()))
    | true => Option.map Sum.inr (some (x.1, e, w0, w1, cl, x.2.2.2.2.2.1, ()))
  else Option.map Sum.inr (some x)
 ) : Option ((EnvP × (WorkerV MV) × (WorkerV MV) × (ClientV MV) × ah0 × Unit) ⊕ aj0)).bind fun z => match z with
 | .inr o => some o
 | .inl z =>
  (abz y1 (wi (7 * x.1)) (wi (c.workers + 1))).bind fun r =>
  (lpF (akv r.1.1) 18446744073709551616 (0, z.1, z.2.1, z.2.2.1, z.2.2.2.1, z.2.2.2.2.1, ())).bind fun z2 =>
  self (wi (x.1 + 1), z2.2.1, z2.2.2.1, z2.2.2.2.1, z2.2.2.2.2.1, z2.2.2.2.2.2.1, ())
def eI2 : List Itm := [.ob 19 27, .ob 33 31, .ob 47 31, .ob 21 30, .cx 22 [.inr (.ptr 19 0), .inr (.sl 49), .inr (.ptr 21 0), .inr (.sl 78), .inl sI_, .inl (.row 1), .inl sI_, .inl sI_, .inl sU_, .inl sU_]]
noncomputable def abV (y0 : List Int) (y1 : List Int) (y2 : List Int) : Option ((Bool × Unit) × (Unit)) :=
 (aoN y0 ([y1])).bind fun r1 =>
 if (!r1.1.1) = true then some ((true, ()), (()))
 else
 if 600 < ((y2.length : Nat) : Int) then some ((true, ()), (()))
 else
 (afG y0).bind fun r2 =>
 (ad1 r2.1.1).bind fun r3 =>
 if r3.1.2.1 ≠ 0 then
  if r3.1.2.1 ≠ 0 then
   (aaB).bind fun r4 =>
   if (!r4.1.1) = true then some ((false, ()), (()))
   else some ((false, ()), (()))
  else
  (aaB).bind fun r5 =>
  if (!r5.1.1) = true then some ((false, ()), (()))
  else some ((false, ()), (()))
 else
 (afy r2.1.1).bind fun r6 =>
 if r2.1.1.workers = ((2 : Nat) : Int) then
  (ac8 0).bind fun w0 =>
  (ac8 1).bind fun w1 =>
  (lpF (aFS (α := EnvP × (WorkerV MV) × (WorkerV MV) × (ClientV MV) × ah0 × Unit)) 18446744073709551616 (0, r3.1.1, w0.1.1, w1.1.1, r6.1.1, (0, [], 0, 0, 0, 0, ()), ())).bind fun z9 =>
  (aaB).bind fun r11 =>
  if (!r11.1.1) = true then some ((false, ()), (()))
  else
  (lpF (ats y1 r2.1.1) 18446744073709551616 (0, z9.2.1, z9.2.2.1, z9.2.2.2.1, z9.2.2.2.2.1, z9.2.2.2.2.2.1, ())).bind fun z =>
  ((amV z.2.1 z.2.2.1 z.2.2.2.1 z.2.2.2.2.1 fun b e w0 w1 cl => some (!b, e, w0, w1, cl, z.2.2.2.2.2.1, ())) : Option (Bool × EnvP × (WorkerV MV) × (WorkerV MV) × (ClientV MV) × ah0 × Unit)).bind fun z =>
  if z.1 = true then some ((true, ()), (()))
  else
  (lpF (aze z.2.1.evs) 18446744073709551616 (0, [], z.2.2.2.2.2.1, ())).bind fun p =>
  (ake y2 300).bind fun r =>
  (lpF (akv r.1.1) 18446744073709551616 (0, z.2.1, z.2.2.1, z.2.2.2.1, z.2.2.2.2.1, p.2.2.1, ())).bind fun z =>
  (lpF (aze z.2.1.evs) 18446744073709551616 (0, [], z.2.2.2.2.2.1, ())).bind fun q =>
  (lpF (aDY q.2.1) 18446744073709551616 (((p.2.1.length : Nat) : Int), ())).bind fun s => match s with
  | .inr o => some o
  | .inl _ =>
  amV z.2.1 z.2.2.1 z.2.2.2.1 z.2.2.2.2.1 fun b _ _ _ _ => some ((b, ()), ())
 else
 none
noncomputable abbrev agd : Con SR1 := ⟨4, [.sh (.ro 17), .sh (.ro 1), .sh (.ro 17)], [.sh .b], fun x => abV x.1 x.2.1 x.2.2.1⟩
noncomputable def afV : List (Nat × Func) := [(9, Tryz.f9), (22, Tryz.f22), (41, Tryz.f41), (16, Tryz.f16), (15, Tryz.f15), (31, Tryz.f31), (50, Tryz.f50), (30, Tryz.f30), (32, Tryz.f32), (23, Tryz.f23), (18, Tryz.f18)]
theorem afW : CO Tryz.prog agd := aal aak Tryz.func4 [aln, ahj, aew, ab0, ae4, aeW, abH, abG, aka, adL, aco, abR, ac9, ach, ab7, acQ, adj, acd, aiO] ⟨alm, ahi, aeI, acL, afx, afk, ab5, ab1, ajj, adc, acS, acp, adu, acI, acB, adi, adx, acE, ajn, trivial⟩ afV ⟨Tryz.func9, Tryz.func22, Tryz.func41, Tryz.func16, Tryz.func15, Tryz.func31, Tryz.func50, Tryz.func30, Tryz.func32, Tryz.func23, Tryz.func18, trivial⟩ (fun f => (get [(22, [(6, .spl 22 [2] 3)]), (41, [(2, .unroll 3)]), (16, [(1, .loop (.rg 8 sI_ :: eI2) 18446744073709551616 0)]), (15, [(6, .loopR [.rg 6 sI_, .ob 118 9] 18446744073709551616 0), (6, .loopR [.rg 6 sI_, .ob 128 9] 18446744073709551616 0)]), (50, [(2, .unroll 3)]), (23, [(9, .cut eI2 [0, 1, 2, 3, 14, 15, 85, 86, 87]), (9, .cut eI2 [0, 1, 2, 3, 14, 15, 89, 90, 91]), (12, .loop [.ob 19 27, .cx 22 [.inr (.ptr 19 0), .inr (.sl 49), .inr (.ptr 21 0), .inr (.sl 78), .inl sI_, .inl (.row 1), .inl sI_, .inl sI_, .inl sU_, .inl sU_]] 18446744073709551616 1)]), (18, [(3, .loop [.rg 14 sI_, .rg 3 (.row 6), .cx 22 [.inr (.ptr 19 0), .inr (.sl 49), .inr (.ptr 21 0), .inr (.sl 78), .inl sI_, .inl (.row 1), .inl sI_, .inl sI_, .inl sU_, .inl sU_]] 18446744073709551616 0)])] f).getD []) [(8, .loop (.rg 9 sI_ :: eI2) 18446744073709551616 0), (10, .cutR eI2 [0, 1, 2, 3, 14, 15]), (12, .cut (.rg 54 .b :: eI2) [0, 1, 2, 3, 14, 15, 16, 17, 18, 49, 50, 78, 79]), (17, .loopR [.rg 12 sI_] 18446744073709551616 2), (21, .cut [.rg 102 .b] [])] fun x => by kernel_rfl
noncomputable def atr (y1 : List Int) (c : Cfg) (self : ajZ → Option (ajZ)) (x : ajZ) : Option (ajZ) :=
 ((
  if x.1 < 300 then
   alt x.2.1 x.2.2.1 x.2.2.2.1 x.2.2.2.2.1 x.2.2.2.2.2.1 fun b e w0 w1 w2 cl => match b with
    | false => some (Sum.inl (e, w0, w1, w2, cl, x.2.2.2.2.2.2.1, ()))
    | true => Option.map Sum.inr (some (x.1, e, w0, w1, w2, cl, x.2.2.2.2.2.2.1, ()))
  else Option.map Sum.inr (some x)
 ) : Option ((EnvP × (WorkerV MV) × (WorkerV MV) × (WorkerV MV) × (ClientV MV) × ah0 × Unit) ⊕ ajZ)).bind fun z => match z with
 | .inr o => some o
 | .inl z =>
  (abz y1 (wi (7 * x.1)) (wi (c.workers + 1))).bind fun r =>
  (lpF (aku r.1.1) 18446744073709551616 (0, z.1, z.2.1, z.2.2.1, z.2.2.2.1, z.2.2.2.2.1, z.2.2.2.2.2.1, ())).bind fun z2 =>
  self (wi (x.1 + 1), z2.2.1, z2.2.2.1, z2.2.2.2.1, z2.2.2.2.2.1, z2.2.2.2.2.2.1, z2.2.2.2.2.2.2.1, ())
def eI3 : List Itm := [.ob 19 27, .ob 33 31, .ob 47 31, .ob 61 31, .ob 21 30, .cx 22 [.inr (.ptr 19 0), .inr (.sl 63), .inr (.ptr 21 0), .inr (.sl 95), .inl sI_, .inl (.row 1), .inl sI_, .inl sI_, .inl sU_, .inl sU_]]
noncomputable def abU (y0 : List Int) (y1 : List Int) (y2 : List Int) : Option ((Bool × Unit) × (Unit)) :=
 (aoN y0 ([y1])).bind fun r1 =>
 if (!r1.1.1) = true then some ((true, ()), (()))
 else
 if 600 < ((y2.length : Nat) : Int) then some ((true, ()), (()))
 else
 (afG y0).bind fun r2 =>
 (ad1 r2.1.1).bind fun r3 =>
 if r3.1.2.1 ≠ 0 then
  if r3.1.2.1 ≠ 0 then
   (aaB).bind fun r4 =>
   if (!r4.1.1) = true then some ((false, ()), (()))
   else some ((false, ()), (()))
  else
  (aaB).bind fun r5 =>
  if (!r5.1.1) = true then some ((false, ()), (()))
  else some ((false, ()), (()))
 else
 (afy r2.1.1).bind fun r6 =>
 if r2.1.1.workers = ((3 : Nat) : Int) then
  (ac8 0).bind fun w0 =>
  (ac8 1).bind fun w1 =>
  (ac8 2).bind fun w2 =>
  (lpF (aFS (α := EnvP × (WorkerV MV) × (WorkerV MV) × (WorkerV MV) × (ClientV MV) × ah0 × Unit)) 18446744073709551616 (0, r3.1.1, w0.1.1, w1.1.1, w2.1.1, r6.1.1, (0, [], 0, 0, 0, 0, ()), ())).bind fun z9 =>
  (aaB).bind fun r11 =>
  if (!r11.1.1) = true then some ((false, ()), (()))
  else
  (lpF (atr y1 r2.1.1) 18446744073709551616 (0, z9.2.1, z9.2.2.1, z9.2.2.2.1, z9.2.2.2.2.1, z9.2.2.2.2.2.1, z9.2.2.2.2.2.2.1, ())).bind fun z =>
  ((alt z.2.1 z.2.2.1 z.2.2.2.1 z.2.2.2.2.1 z.2.2.2.2.2.1 fun b e w0 w1 w2 cl => some (!b, e, w0, w1, w2, cl, z.2.2.2.2.2.2.1, ())) : Option (Bool × EnvP × (WorkerV MV) × (WorkerV MV) × (WorkerV MV) × (ClientV MV) × ah0 × Unit)).bind fun z =>
  if z.1 = true then some ((true, ()), (()))
  else
  (lpF (aze z.2.1.evs) 18446744073709551616 (0, [], z.2.2.2.2.2.2.1, ())).bind fun p =>
  (ake y2 300).bind fun r =>
  (lpF (aku r.1.1) 18446744073709551616 (0, z.2.1, z.2.2.1, z.2.2.2.1, z.2.2.2.2.1, z.2.2.2.2.2.1, p.2.2.1, ())).bind fun z =>
  (lpF (aze z.2.1.evs) 18446744073709551616 (0, [], z.2.2.2.2.2.2.1, ())).bind fun q =>
  (lpF (aDY q.2.1) 18446744073709551616 (((p.2.1.length : Nat) : Int), ())).bind fun s => match s with
  | .inr o => some o
  | .inl _ =>
  alt z.2.1 z.2.2.1 z.2.2.2.1 z.2.2.2.2.1 z.2.2.2.2.2.1 fun b _ _ _ _ _ => some ((b, ()), ())
 else
 none
noncomputable abbrev agc : Con SR1 := ⟨4, [.sh (.ro 17), .sh (.ro 1), .sh (.ro 17)], [.sh .b], fun x => abU x.1 x.2.1 x.2.2.1⟩
noncomputable def afT : List (Nat × Func) := [(9, Tryz.f9), (22, Tryz.f22), (41, Tryz.f41), (16, Tryz.f16), (15, Tryz.f15), (31, Tryz.f31), (50, Tryz.f50), (30, Tryz.f30), (32, Tryz.f32), (23, Tryz.f23), (18, Tryz.f18)]
theorem afU : CO Tryz.prog agc := aal aak Tryz.func4 [aln, ahj, aew, ab0, ae4, aeW, abH, abG, aka, adL, aco, abR, ac9, ach, ab7, acQ, adj, acd, aiO] ⟨alm, ahi, aeI, acL, afx, afk, ab5, ab1, ajj, adc, acS, acp, adu, acI, acB, adi, adx, acE, ajn, trivial⟩ afT ⟨Tryz.func9, Tryz.func22, Tryz.func41, Tryz.func16, Tryz.func15, Tryz.func31, Tryz.func50, Tryz.func30, Tryz.func32, Tryz.func23, Tryz.func18, trivial⟩ (fun f => (get [(22, [(6, .spl 22 [3] 4)]), (41, [(2, .unroll 4)]), (16, [(1, .loop (.rg 8 sI_ :: eI3) 18446744073709551616 0)]), (15, [(6, .loopR [.rg 6 sI_, .ob 136 9] 18446744073709551616 0), (6, .loopR [.rg 6 sI_, .ob 146 9] 18446744073709551616 0)]), (50, [(2, .unroll 4)]), (23, [(9, .cut eI3 [0, 1, 2, 3, 14, 15, 102, 103, 104]), (9, .cut eI3 [0, 1, 2, 3, 14, 15, 106, 107, 108]), (12, .loop [.ob 19 27, .cx 22 [.inr (.ptr 19 0), .inr (.sl 63), .inr (.ptr 21 0), .inr (.sl 95), .inl sI_, .inl (.row 1), .inl sI_, .inl sI_, .inl sU_, .inl sU_]] 18446744073709551616 1)]), (18, [(3, .loop [.rg 14 sI_, .rg 3 (.row 6), .cx 22 [.inr (.ptr 19 0), .inr (.sl 63), .inr (.ptr 21 0), .inr (.sl 95), .inl sI_, .inl (.row 1), .inl sI_, .inl sI_, .inl sU_, .inl sU_]] 18446744073709551616 0)])] f).getD []) [(8, .loop (.rg 9 sI_ :: eI3) 18446744073709551616 0), (10, .cutR eI3 [0, 1, 2, 3, 14, 15]), (12, .cut (.rg 54 .b :: eI3) [0, 1, 2, 3, 14, 15, 16, 17, 18, 63, 64, 95, 96]), (17, .loopR [.rg 12 sI_] 18446744073709551616 2), (21, .cut [.rg 102 .b] [])] fun x => by kernel_rfl
noncomputable def atq (y1 : List Int) (c : Cfg) (self : ajY → Option (ajY)) (x : ajY) : Option (ajY) :=
 ((
  if x.1 < 300 then
   ajU x.2.1 x.2.2.1 x.2.2.2.1 x.2.2.2.2.1 x.2.2.2.2.2.1 x.2.2.2.2.2.2.1 fun b e w0 w1 w2 w3 cl => match b with
    | false => some (Sum.inl (e, w0, w1, w2, w3, cl, x.2.2.2.2.2.2.2.1, ()))
    | true => Option.map Sum.inr (some (x.1, e, w0, w1, w2, w3, cl, x.2.2.2.2.2.2.2.1, ()))
  else Option.map Sum.inr (some x)
 ) : Option ((EnvP × (WorkerV MV) × (WorkerV MV) × (WorkerV MV) × (WorkerV MV) × (ClientV MV) × ah0 × Unit) ⊕ ajY)).bind fun z => match z with
 | .inr o => some o
 | .inl z =>
  (abz y1 (wi (7 * x.1)) (wi (c.workers + 1))).bind fun r =>
  (lpF (akt r.1.1) 18446744073709551616 (0, z.1, z.2.1, z.2.2.1, z.2.2.2.1, z.2.2.2.2.1, z.2.2.2.2.2.1, z.2.2.2.2.2.2.1, ())).bind fun z2 =>
  self (wi (x.1 + 1), z2.2.1, z2.2.2.1, z2.2.2.2.1, z2.2.2.2.2.1, z2.2.2.2.2.2.1, z2.2.2.2.2.2.2.1, z2.2.2.2.2.2.2.2.1, ())
def eI4 : List Itm := [.ob 19 27, .ob 33 31, .ob 47 31, .ob 61 31, .ob 75 31, .ob 21 30, .cx 22 [.inr (.ptr 19 0), .inr (.sl 77), .inr (.ptr 21 0), .inr (.sl 112), .inl sI_, .inl (.row 1), .inl sI_, .inl sI_, .inl sU_, .inl sU_]]
noncomputable def abT (y0 : List Int) (y1 : List Int) (y2 : List Int) : Option ((Bool × Unit) × (Unit)) :=
 (aoN y0 ([y1])).bind fun r1 =>
 if (!r1.1.1) = true then some ((true, ()), (()))
 else
 if 600 < ((y2.length : Nat) : Int) then some ((true, ()), (()))
 else
 (afG y0).bind fun r2 =>
 (ad1 r2.1.1).bind fun r3 =>
 if r3.1.2.1 ≠ 0 then
  if r3.1.2.1 ≠ 0 then
   (aaB).bind fun r4 =>
   if (!r4.1.1) = true then some ((false, ()), (()))
   else some ((false, ()), (()))
  else
  (aaB).bind fun r5 =>
  if (!r5.1.1) = true then some ((false, ()), (()))
  else some ((false, ()), (()))
 else
 (afy r2.1.1).bind fun r6 =>
 if r2.1.1.workers = ((4 : Nat) : Int) then
  (ac8 0).bind fun w0 =>
  (ac8 1).bind fun w1 =>
  (ac8 2).bind fun w2 =>
  (ac8 3).bind fun w3 =>
  (lpF (aFS (α := EnvP × (WorkerV MV) × (WorkerV MV) × (WorkerV MV) × (WorkerV MV) × (ClientV MV) × ah0 × Unit)) 18446744073709551616 (0, r3.1.1, w0.1.1, w1.1.1, w2.1.1, w3.1.1, r6.1.1, (0, [], 0, 0, 0, 0, ()), ())).bind fun z9 =>
  (aaB).bind fun r11 =>
  if (!r11.1.1) = true then some ((false, ()), (()))
  else
  (lpF (atq y1 r2.1.1) 18446744073709551616 (0, z9.2.1, z9.2.2.1, z9.2.2.2.1, z9.2.2.2.2.1, z9.2.2.2.2.2.1, z9.2.2.2.2.2.2.1, z9.2.2.2.2.2.2.2.1, ())).bind fun z =>
  ((ajU z.2.1 z.2.2.1 z.2.2.2.1 z.2.2.2.2.1 z.2.2.2.2.2.1 z.2.2.2.2.2.2.1 fun b e w0 w1 w2 w3 cl => some (!b, e, w0, w1, w2, w3, cl, z.2.2.2.2.2.2.2.1, ())) : Option (Bool × EnvP × (WorkerV MV) × (WorkerV MV) × (WorkerV MV) × (WorkerV MV) × (ClientV MV) × ah0 × Unit)).bind fun z =>
  if z.1 = true then some ((true, ()), (()))
  else
  (lpF (aze z.2.1.evs) 18446744073709551616 (0, [], z.2.2.2.2.2.2.2.1, ())).bind fun p =>
  (ake y2 300).bind fun r =>
  (lpF (akt r.1.1) 18446744073709551616 (0, z.2.1, z.2.2.1, z.2.2.2.1, z.2.2.2.2.1, z.2.2.2.2.2.1, z.2.2.2.2.2.2.1, p.2.2.1, ())).bind fun z =>
  (lpF (aze z.2.1.evs) 18446744073709551616 (0, [], z.2.2.2.2.2.2.2.1, ())).bind fun q =>
  (lpF (aDY q.2.1) 18446744073709551616 (((p.2.1.length : Nat) : Int), ())).bind fun s => match s with
  | .inr o => some o
  | .inl _ =>
  ajU z.2.1 z.2.2.1 z.2.2.2.1 z.2.2.2.2.1 z.2.2.2.2.2.1 z.2.2.2.2.2.2.1 fun b _ _ _ _ _ _ => some ((b, ()), ())
 else
 none
noncomputable abbrev agb : Con SR1 := ⟨4, [.sh (.ro 17), .sh (.ro 1), .sh (.ro 17)], [.sh .b], fun x => abT x.1 x.2.1 x.2.2.1⟩
noncomputable def afR : List (Nat × Func) := [(9, Tryz.f9), (22, Tryz.f22), (41, Tryz.f41), (16, Tryz.f16), (15, Tryz.f15), (31, Tryz.f31), (50, Tryz.f50), (30, Tryz.f30), (32, Tryz.f32), (23, Tryz.f23), (18, Tryz.f18)]
theorem afS : CO Tryz.prog agb := aal aak Tryz.func4 [aln, ahj, aew, ab0, ae4, aeW, abH, abG, aka, adL, aco, abR, ac9, ach, ab7, acQ, adj, acd, aiO] ⟨alm, ahi, aeI, acL, afx, afk, ab5, ab1, ajj, adc, acS, acp, adu, acI, acB, adi, adx, acE, ajn, trivial⟩ afR ⟨Tryz.func9, Tryz.func22, Tryz.func41, Tryz.func16, Tryz.func15, Tryz.func31, Tryz.func50, Tryz.func30, Tryz.func32, Tryz.func23, Tryz.func18, trivial⟩ (fun f => (get [(22, [(6, .spl 22 [4] 5)]), (41, [(2, .unroll 5)]), (16, [(1, .loop (.rg 8 sI_ :: eI4) 18446744073709551616 0)]), (15, [(6, .loopR [.rg 6 sI_, .ob 154 9] 18446744073709551616 0), (6, .loopR [.rg 6 sI_, .ob 164 9] 18446744073709551616 0)]), (50, [(2, .unroll 5)]), (23, [(9, .cut eI4 [0, 1, 2, 3, 14, 15, 119, 120, 121]), (9, .cut eI4 [0, 1, 2, 3, 14, 15, 123, 124, 125]), (12, .loop [.ob 19 27, .cx 22 [.inr (.ptr 19 0), .inr (.sl 77), .inr (.ptr 21 0), .inr (.sl 112), .inl sI_, .inl (.row 1), .inl sI_, .inl sI_, .inl sU_, .inl sU_]] 18446744073709551616 1)]), (18, [(3, .loop [.rg 14 sI_, .rg 3 (.row 6), .cx 22 [.inr (.ptr 19 0), .inr (.sl 77), .inr (.ptr 21 0), .inr (.sl 112), .inl sI_, .inl (.row 1), .inl sI_, .inl sI_, .inl sU_, .inl sU_]] 18446744073709551616 0)])] f).getD []) [(8, .loop (.rg 9 sI_ :: eI4) 18446744073709551616 0), (10, .cutR eI4 [0, 1, 2, 3, 14, 15]), (12, .cut (.rg 54 .b :: eI4) [0, 1, 2, 3, 14, 15, 16, 17, 18, 77, 78, 112, 113]), (17, .loopR [.rg 12 sI_] 18446744073709551616 2), (21, .cut [.rg 102 .b] [])] fun x => by kernel_rfl
theorem aaN.of_eq {α : Type} {a b : Option α} {P : α → Prop} (h : a = b) (hb : aaN b P) : aaN a P := h ▸ hb
theorem anM {l : List St} {n : Int} (h0 : 0 ≤ n) (hl : l.length ≤ 999999999) (hn : n ≤ (l.length : Int)) (hk : ∀ i, n ≤ i → i < (l.length : Int) → 11 ≤ (aAW l i).ev.kind) : aaN (lpF (aDY l) 18446744073709551616 (n, ())) fun z => ∃ u, z = Sum.inl u := by
  refine acm (fun x => n ≤ x.1 ∧ x.1 ≤ (l.length : Int)) (fun x => ((l.length : Int) - x.1).toNat) (fun self x hx ih => ?_) _ _ ⟨Int.le_refl n, hn⟩ (by show ((l.length : Int) - n).toNat < _; omega)
  obtain ⟨i, ⟨⟩⟩ := x
  obtain ⟨q1, q2⟩ := hx
  simp only at q1 q2
  have e1 : wi (i + 1) = i + 1 := aaQ (aau (by omega))
  unfold aDY
  refine aaN.ite (fun hlt => ?_) fun hge => .some_ ⟨_, rfl⟩
  have hlt : i < (l.length : Int) := hlt
  have h11 := hk i q1 hlt
  refine .guard ⟨by show 0 ≤ i; omega, hlt⟩ fun _ => ?_
  simp only
  rw [if_neg (by omega), if_neg (by omega), if_neg (by omega), if_neg (by omega), if_neg (by omega), if_neg (by omega), bnd, decide_eq_false (by omega), if_neg (by decide), e1]
  exact ih _ ⟨by show n ≤ i + 1; omega, by show i + 1 ≤ _; omega⟩ (by show (_ - (i + 1) : Int).toNat < (_ - i : Int).toNat; omega)
theorem aus {g : ah0} {evs : List Ev} (h : g.2.1.length = evs.length) {i : Int} (h0 : 0 ≤ i) (h1 : i < ((List.zipWith stF g.2.1 evs).length : Int)) : ∃ hi : i.toNat < evs.length, (aAW (List.zipWith stF g.2.1 evs) i).ev = evs[i.toNat] := by
  have hl : (List.zipWith stF g.2.1 evs).length = evs.length := by rw [List.length_zipWith, h]; omega
  have hi : i.toNat < (List.zipWith stF g.2.1 evs).length := by omega
  refine ⟨by omega, ?_⟩
  have := aet (α := St) (d := (dfR 6 : TR 6)) (xs := List.zipWith stF g.2.1 evs) (i := i) ⟨h0, h1⟩
  rw [List.getElem?_eq_getElem hi, List.getElem_zipWith] at this
  exact congrArg St.ev (Option.some.inj this).symm
theorem alC : aaB = some ((true, ()), ()) := by kernel_rfl
theorem avt {c : Cfg} : EG 0 (aiU c) (0, [], 0, 0, 0, 0, ()) := ⟨rfl, rfl, fun s h => (by cases h), .nil⟩
theorem aHc {c : Cfg} (hd : DecOk c) {env : EnvP} {w0 : WorkerV MV} {cl : ClientV MV} {eng : ah0} {y1 : List Int} (hy : y1.length ≤ 1000000) (h : JL c 0 env [w0] cl) (hg : EG 0 env eng) :
    aaN (lpF (att y1 c) 18446744073709551616 (0, env, w0, cl, eng, ())) fun z => ∃ N, N ≤ 60000 ∧ JL c N z.2.1 [z.2.2.1] z.2.2.2.1 ∧ EG N z.2.1 z.2.2.2.2.1 := by
  refine (acm (fun x => (0 ≤ x.1 ∧ x.1 ≤ 300) ∧ ∃ N : Nat, (N : Int) ≤ 200 * x.1 ∧ JL c N x.2.1 [x.2.2.1] x.2.2.2.1 ∧ EG N x.2.1 x.2.2.2.2.1) (fun x => (300 - x.1).toNat) (fun self x hx ih => ?_) _ _ ?init (by show (300 - 0 : Int).toNat < _; omega))
  case init => exact ⟨⟨Int.le_refl 0, by show (0 : Int) ≤ 300; omega⟩, 0, by show ((0 : Nat) : Int) ≤ 200 * 0; omega, h, hg⟩
  obtain ⟨i, env, w0, cl, eng, ⟨⟩⟩ := x
  obtain ⟨⟨q0, q1⟩, N, q2, hj, hg⟩ := hx
  simp only at q0 q1 q2 hj hg
  have hw := hd.w
  have fin : ∃ M, M ≤ 60000 ∧ JL c M env [w0] cl ∧ EG M env eng := ⟨N, by omega, hj, hg⟩
  unfold att
  refine aaN.bind (P := fun z => z = Sum.inl (env, w0, cl, eng, ()) ∧ i < 300 ∨ z = Sum.inr (i, env, w0, cl, eng, ())) ?_ fun z hz => ?_
  · refine aaN.ite (fun hlt => ?_) fun _ => .some_ (.inr rfl)
    obtain ⟨vs, g1, _, _⟩ := hj
    obtain ⟨b, d1, _⟩ := ax7 (w0 := w0) (cl := cl) g1.m g1.n
    refine aaN.of_eq (d1 _) ?_
    cases b with
    | true => exact .some_ (.inr rfl)
    | false => exact .some_ (.inl ⟨rfl, hlt⟩)
  rcases hz with ⟨rfl, hlt⟩ | rfl
  · have e1 : wi (7 * i) = 7 * i := aaQ (aau (by omega))
    have e2 : wi (c.workers + 1) = c.workers + 1 := aaQ (aau (by omega))
    have e3 : wi (i + 1) = i + 1 := aaQ (aau (by omega))
    simp only
    rw [e1, e2, e3]
    refine (akP hy (by omega) (by omega)).bind fun r hr => ?_
    refine (aBt amQ (l := r.1.1) hj hg (by omega)).bind fun z hz => ?_
    obtain ⟨a1, a2, _⟩ := hz
    exact ih _ ⟨⟨by show 0 ≤ i + 1; omega, by show i + 1 ≤ 300; omega⟩, N + r.1.1.length, by show ((N + r.1.1.length : Nat) : Int) ≤ 200 * (i + 1); omega, a1, a2⟩ (by show (300 - (i + 1) : Int).toNat < (300 - i : Int).toNat; omega)
  · exact .some_ fin
theorem awi {y0 y1 y2 : List Int} {o : (Cfg × Unit) × Unit} (e : afG y0 = some o) (ho : DecOk o.1.1) (hw : o.1.1.workers = (((1 : Nat) : Int))) : aaN (abh y0 y1 y2) fun r => r.1.1 = true := by
  obtain ⟨⟨c, ⟨⟩⟩, ⟨⟩⟩ := o
  simp only at ho hw
  unfold abh
  refine (ag5 y0 [y1] (by simp)).bind fun r hr => aaN.ite (fun _ => .some_ rfl) fun hb => aaN.ite (fun _ => .some_ rfl) fun hlen => ?_
  have hy : y1.length ≤ 400 := (hr (by cases hq : r.1.1; exact absurd (by rw [hq]; rfl) hb; rfl)).2 y1 (by simp)
  rw [e, bnd, avg (ahn ho), bnd, if_neg (fun h => h rfl), avH ho, bnd, if_pos hw, ajK (l := aao c) (j := 0), bnd]
  have hj : JL c 0 (aiU c) [adl (aao c) 0 ⟨0, 0, 0, 0, .top⟩] (ahS c.subs c.workers ⟨0, 0, false, .n1⟩) := avj ho fun j w hj => by
    match j, hj with
    | 0, hj => exact (Option.some.inj hj).symm
  refine aaN.bind (P := fun z => z = (0, aiU c, adl (aao c) 0 ⟨0, 0, 0, 0, .top⟩, ahS c.subs c.workers ⟨0, 0, false, .n1⟩, (0, [], 0, 0, 0, 0, ()), ())) (acm (fun x => x = (0, aiU c, adl (aao c) 0 ⟨0, 0, 0, 0, .top⟩, ahS c.subs c.workers ⟨0, 0, false, .n1⟩, (0, [], 0, 0, 0, 0, ()), ())) (fun _ => 0) (fun self x hx ih => by subst hx; exact .some_ rfl) _ _ rfl (by show 0 < _; omega)) fun z9 hz9 => ?_
  subst hz9
  rw [alC, bnd, if_neg (by decide)]
  refine (aHc ho (y1 := y1) (by omega) hj avt).bind fun z hz => ?_
  obtain ⟨zi, ze, z0, zc, zg, ⟨⟩⟩ := z
  obtain ⟨N, hN, hj2, hg2⟩ := hz
  have hj2 : JL c N ze [z0] zc := hj2
  have hg2 : EG N ze zg := hg2
  have hev := amQ.ev hj2
  have hb1 := hj2
  obtain ⟨vs, g1, _, _⟩ := hb1
  obtain ⟨b, d1, d2⟩ := ax7 (w0 := z0) (cl := zc) g1.m g1.n
  refine aaN.bind (P := fun z => z = (!b, ze, z0, zc, zg, ())) (aaN.of_eq (d1 _) (.some_ rfl)) fun z hz => ?_
  subst hz
  refine aaN.ite (fun _ => .some_ rfl) fun hnb => ?_
  have hb2 : b = true := by cases b; exact absurd rfl hnb; rfl
  have hD : apx c ze [z0] zc := d2.1 hb2
  have jd := aAr hj2 hD
  refine (agJ hg2.l (by omega)).bind fun p hp => ?_
  obtain ⟨p1, p2⟩ := hp
  refine (ajc (b := y2) (n := 300) (by omega) (by decide)).bind fun r2 hr2 => ?_
  have hr2 : r2.1.1.length ≤ 300 := hr2
  rw [p2]
  refine (aBt amR (l := r2.1.1) jd hg2 (by omega)).bind fun z hz => ?_
  obtain ⟨ui, ue, u0, uc, ug, ⟨⟩⟩ := z
  obtain ⟨jd2, hg3, _⟩ := hz
  have jd2 : JD c ze (N + r2.1.1.length) ue [u0] uc := jd2
  have hg3 : EG (N + r2.1.1.length) ue ug := hg3
  have hev2 := amR.ev jd2
  refine (agJ hg3.l (by omega)).bind fun q hq => ?_
  obtain ⟨q1, q2⟩ := hq
  obtain ⟨l, hl, hk⟩ := jd2.ev
  have lp : p.2.1.length = ze.evs.length := by rw [p1, List.length_zipWith, hg2.l]; omega
  have lq : q.2.1.length = ue.evs.length := by rw [q1, List.length_zipWith, hg3.l]; omega
  have le : ue.evs.length = ze.evs.length + l.length := by rw [hl, List.length_append]
  refine (anM (l := q.2.1) (n := ((p.2.1.length : Nat) : Int)) (by omega) (by omega) (by omega) fun i h0 h1 => ?_).bind fun s hs => ?_
  · rw [q1] at h1 ⊢
    obtain ⟨hi, e3⟩ := aus hg3.l (by omega) h1
    rw [e3]
    refine hk _ ?_
    have : ue.evs[i.toNat] = (ze.evs ++ l)[i.toNat]'(by rw [← hl]; exact hi) := by simp only [hl]
    rw [this, List.getElem_append_right (by omega)]
    exact List.getElem_mem _
  obtain ⟨u, rfl⟩ := hs
  obtain ⟨b3, d3, d4⟩ := ax7 (w0 := u0) (cl := uc) jd2.m jd2.n
  have hb3 : b3 = true := d4.2 (jd2.done hD.2.2)
  subst hb3
  exact aaN.of_eq (d3 _) (.some_ rfl)
theorem aHb {c : Cfg} (hd : DecOk c) {env : EnvP} {w0 w1 : WorkerV MV} {cl : ClientV MV} {eng : ah0} {y1 : List Int} (hy : y1.length ≤ 1000000) (h : JL c 0 env [w0, w1] cl) (hg : EG 0 env eng) :
    aaN (lpF (ats y1 c) 18446744073709551616 (0, env, w0, w1, cl, eng, ())) fun z => ∃ N, N ≤ 60000 ∧ JL c N z.2.1 [z.2.2.1, z.2.2.2.1] z.2.2.2.2.1 ∧ EG N z.2.1 z.2.2.2.2.2.1 := by
  refine (acm (fun x => (0 ≤ x.1 ∧ x.1 ≤ 300) ∧ ∃ N : Nat, (N : Int) ≤ 200 * x.1 ∧ JL c N x.2.1 [x.2.2.1, x.2.2.2.1] x.2.2.2.2.1 ∧ EG N x.2.1 x.2.2.2.2.2.1) (fun x => (300 - x.1).toNat) (fun self x hx ih => ?_) _ _ ?init (by show (300 - 0 : Int).toNat < _; omega))
  case init => exact ⟨⟨Int.le_refl 0, by show (0 : Int) ≤ 300; omega⟩, 0, by show ((0 : Nat) : Int) ≤ 200 * 0; omega, h, hg⟩
  obtain ⟨i, env, w0, w1, cl, eng, ⟨⟩⟩ := x
  obtain ⟨⟨q0, q1⟩, N, q2, hj, hg⟩ := hx
  simp only at q0 q1 q2 hj hg
  have hw := hd.w
  have fin : ∃ M, M ≤ 60000 ∧ JL c M env [w0, w1] cl ∧ EG M env eng := ⟨N, by omega, hj, hg⟩
  unfold ats
  refine aaN.bind (P := fun z => z = Sum.inl (env, w0, w1, cl, eng, ()) ∧ i < 300 ∨ z = Sum.inr (i, env, w0, w1, cl, eng, ())) ?_ fun z hz => ?_
  · refine aaN.ite (fun hlt => ?_) fun _ => .some_ (.inr rfl)
    obtain ⟨vs, g1, _, _⟩ := hj
    obtain ⟨b, d1, _⟩ := ax6 (w0 := w0) (w1 := w1) (cl := cl) g1.m g1.n
    refine aaN.of_eq (d1 _) ?_
    cases b with
    | true => exact .some_ (.inr rfl)
    | false => exact .some_ (.inl ⟨rfl, hlt⟩)
  rcases hz with ⟨rfl, hlt⟩ | rfl
  · have e1 : wi (7 * i) = 7 * i := aaQ (aau (by omega))
    have e2 : wi (c.workers + 1) = c.workers + 1 := aaQ (aau (by omega))
    have e3 : wi (i + 1) = i + 1 := aaQ (aau (by omega))
    simp only
    rw [e1, e2, e3]
    refine (akP hy (by omega) (by omega)).bind fun r hr => ?_
    refine (aBs amQ (l := r.1.1) hj hg (by omega)).bind fun z hz => ?_
    obtain ⟨a1, a2, _⟩ := hz
    exact ih _ ⟨⟨by show 0 ≤ i + 1; omega, by show i + 1 ≤ 300; omega⟩, N + r.1.1.length, by show ((N + r.1.1.length : Nat) : Int) ≤ 200 * (i + 1); omega, a1, a2⟩ (by show (300 - (i + 1) : Int).toNat < (300 - i : Int).toNat; omega)
  · exact .some_ fin
theorem awh {y0 y1 y2 : List Int} {o : (Cfg × Unit) × Unit} (e : afG y0 = some o) (ho : DecOk o.1.1) (hw : o.1.1.workers = (((2 : Nat) : Int))) : aaN (abV y0 y1 y2) fun r => r.1.1 = true := by
  obtain ⟨⟨c, ⟨⟩⟩, ⟨⟩⟩ := o
  simp only at ho hw
  unfold abV
  refine (ag5 y0 [y1] (by simp)).bind fun r hr => aaN.ite (fun _ => .some_ rfl) fun hb => aaN.ite (fun _ => .some_ rfl) fun hlen => ?_
  have hy : y1.length ≤ 400 := (hr (by cases hq : r.1.1; exact absurd (by rw [hq]; rfl) hb; rfl)).2 y1 (by simp)
  rw [e, bnd, avg (ahn ho), bnd, if_neg (fun h => h rfl), avH ho, bnd, if_pos hw, ajK (l := aao c) (j := 0), bnd, ajK (l := aao c) (j := 1), bnd]
  have hj : JL c 0 (aiU c) [adl (aao c) 0 ⟨0, 0, 0, 0, .top⟩, adl (aao c) 1 ⟨0, 0, 0, 0, .top⟩] (ahS c.subs c.workers ⟨0, 0, false, .n1⟩) := avj ho fun j w hj => by
    match j, hj with
    | 0, hj => exact (Option.some.inj hj).symm
    | 1, hj => exact (Option.some.inj hj).symm
  refine aaN.bind (P := fun z => z = (0, aiU c, adl (aao c) 0 ⟨0, 0, 0, 0, .top⟩, adl (aao c) 1 ⟨0, 0, 0, 0, .top⟩, ahS c.subs c.workers ⟨0, 0, false, .n1⟩, (0, [], 0, 0, 0, 0, ()), ())) (acm (fun x => x = (0, aiU c, adl (aao c) 0 ⟨0, 0, 0, 0, .top⟩, adl (aao c) 1 ⟨0, 0, 0, 0, .top⟩, ahS c.subs c.workers ⟨0, 0, false, .n1⟩, (0, [], 0, 0, 0, 0, ()), ())) (fun _ => 0) (fun self x hx ih => by subst hx; exact .some_ rfl) _ _ rfl (by show 0 < _; omega)) fun z9 hz9 => ?_
  subst hz9
  rw [alC, bnd, if_neg (by decide)]
  refine (aHb ho (y1 := y1) (by omega) hj avt).bind fun z hz => ?_
  obtain ⟨zi, ze, z0, z1, zc, zg, ⟨⟩⟩ := z
  obtain ⟨N, hN, hj2, hg2⟩ := hz
  have hj2 : JL c N ze [z0, z1] zc := hj2
  have hg2 : EG N ze zg := hg2
  have hev := amQ.ev hj2
  have hb1 := hj2
  obtain ⟨vs, g1, _, _⟩ := hb1
  obtain ⟨b, d1, d2⟩ := ax6 (w0 := z0) (w1 := z1) (cl := zc) g1.m g1.n
  refine aaN.bind (P := fun z => z = (!b, ze, z0, z1, zc, zg, ())) (aaN.of_eq (d1 _) (.some_ rfl)) fun z hz => ?_
  subst hz
  refine aaN.ite (fun _ => .some_ rfl) fun hnb => ?_
  have hb2 : b = true := by cases b; exact absurd rfl hnb; rfl
  have hD : apx c ze [z0, z1] zc := d2.1 hb2
  have jd := aAr hj2 hD
  refine (agJ hg2.l (by omega)).bind fun p hp => ?_
  obtain ⟨p1, p2⟩ := hp
  refine (ajc (b := y2) (n := 300) (by omega) (by decide)).bind fun r2 hr2 => ?_
  have hr2 : r2.1.1.length ≤ 300 := hr2
  rw [p2]
  refine (aBs amR (l := r2.1.1) jd hg2 (by omega)).bind fun z hz => ?_
  obtain ⟨ui, ue, u0, u1, uc, ug, ⟨⟩⟩ := z
  obtain ⟨jd2, hg3, _⟩ := hz
  have jd2 : JD c ze (N + r2.1.1.length) ue [u0, u1] uc := jd2
  have hg3 : EG (N + r2.1.1.length) ue ug := hg3
  have hev2 := amR.ev jd2
  refine (agJ hg3.l (by omega)).bind fun q hq => ?_
  obtain ⟨q1, q2⟩ := hq
  obtain ⟨l, hl, hk⟩ := jd2.ev
  have lp : p.2.1.length = ze.evs.length := by rw [p1, List.length_zipWith, hg2.l]; omega
  have lq : q.2.1.length = ue.evs.length := by rw [q1, List.length_zipWith, hg3.l]; omega
  have le : ue.evs.length = ze.evs.length + l.length := by rw [hl, List.length_append]
  refine (anM (l := q.2.1) (n := ((p.2.1.length : Nat) : Int)) (by omega) (by omega) (by omega) fun i h0 h1 => ?_).bind fun s hs => ?_
  · rw [q1] at h1 ⊢
    obtain ⟨hi, e3⟩ := aus hg3.l (by omega) h1
    rw [e3]
    refine hk _ ?_
    have : ue.evs[i.toNat] = (ze.evs ++ l)[i.toNat]'(by rw [← hl]; exact hi) := by simp only [hl]
    rw [this, List.getElem_append_right (by omega)]
    exact List.getElem_mem _
  obtain ⟨u, rfl⟩ := hs
  obtain ⟨b3, d3, d4⟩ := ax6 (w0 := u0) (w1 := u1) (cl := uc) jd2.m jd2.n
  have hb3 : b3 = true := d4.2 (jd2.done hD.2.2)
  subst hb3
  exact aaN.of_eq (d3 _) (.some_ rfl)
theorem aHa {c : Cfg} (hd : DecOk c) {env : EnvP} {w0 w1 w2 : WorkerV MV} {cl : ClientV MV} {eng : ah0} {y1 : List Int} (hy : y1.length ≤ 1000000) (h : JL c 0 env [w0, w1, w2] cl) (hg : EG 0 env eng) :
    aaN (lpF (atr y1 c) 18446744073709551616 (0, env, w0, w1, w2, cl, eng, ())) fun z => ∃ N, N ≤ 60000 ∧ JL c N z.2.1 [z.2.2.1, z.2.2.2.1, z.2.2.2.2.1] z.2.2.2.2.2.1 ∧ EG N z.2.1 z.2.2.2.2.2.2.1 := by
  refine (acm (fun x => (0 ≤ x.1 ∧ x.1 ≤ 300) ∧ ∃ N : Nat, (N : Int) ≤ 200 * x.1 ∧ JL c N x.2.1 [x.2.2.1, x.2.2.2.1, x.2.2.2.2.1] x.2.2.2.2.2.1 ∧ EG N x.2.1 x.2.2.2.2.2.2.1) (fun x => (300 - x.1).toNat) (fun self x hx ih => ?_) _ _ ?init (by show (300 - 0 : Int).toNat < _; omega))
  case init => exact ⟨⟨Int.le_refl 0, by show (0 : Int) ≤ 300; omega⟩, 0, by show ((0 : Nat) : Int) ≤ 200 * 0; omega, h, hg⟩
  obtain ⟨i, env, w0, w1, w2, cl, eng, ⟨⟩⟩ := x
  obtain ⟨⟨q0, q1⟩, N, q2, hj, hg⟩ := hx
  simp only at q0 q1 q2 hj hg
  have hw := hd.w
  have fin : ∃ M, M ≤ 60000 ∧ JL c M env [w0, w1, w2] cl ∧ EG M env eng := ⟨N, by omega, hj, hg⟩
  unfold atr
  refine aaN.bind (P := fun z => z = Sum.inl (env, w0, w1, w2, cl, eng, ()) ∧ i < 300 ∨ z = Sum.inr (i, env, w0, w1, w2, cl, eng, ())) ?_ fun z hz => ?_
  · refine aaN.ite (fun hlt => ?_) fun _ => .some_ (.inr rfl)
    obtain ⟨vs, g1, _, _⟩ := hj
    obtain ⟨b, d1, _⟩ := ax5 (w0 := w0) (w1 := w1) (w2 := w2) (cl := cl) g1.m g1.n
    refine aaN.of_eq (d1 _) ?_
    cases b with
    | true => exact .some_ (.inr rfl)
    | false => exact .some_ (.inl ⟨rfl, hlt⟩)
  rcases hz with ⟨rfl, hlt⟩ | rfl
  · have e1 : wi (7 * i) = 7 * i := aaQ (aau (by omega))
    have e2 : wi (c.workers + 1) = c.workers + 1 := aaQ (aau (by omega))
    have e3 : wi (i + 1) = i + 1 := aaQ (aau (by omega))
    simp only
    rw [e1, e2, e3]
    refine (akP hy (by omega) (by omega)).bind fun r hr => ?_
    refine (aBr amQ (l := r.1.1) hj hg (by omega)).bind fun z hz => ?_
    obtain ⟨a1, a2, _⟩ := hz
    exact ih _ ⟨⟨by show 0 ≤ i + 1; omega, by show i + 1 ≤ 300; omega⟩, N + r.1.1.length, by show ((N + r.1.1.length : Nat) : Int) ≤ 200 * (i + 1); omega, a1, a2⟩ (by show (300 - (i + 1) : Int).toNat < (300 - i : Int).toNat; omega)
  · exact .some_ fin
theorem awg {y0 y1 y2 : List Int} {o : (Cfg × Unit) × Unit} (e : afG y0 = some o) (ho : DecOk o.1.1) (hw : o.1.1.workers = (((3 : Nat) : Int))) : aaN (abU y0 y1 y2) fun r => r.1.1 = true := by
  obtain ⟨⟨c, ⟨⟩⟩, ⟨⟩⟩ := o
  simp only at ho hw
  unfold abU
  refine (ag5 y0 [y1] (by simp)).bind fun r hr => aaN.ite (fun _ => .some_ rfl) fun hb => aaN.ite (fun _ => .some_ rfl) fun hlen => ?_
  have hy : y1.length ≤ 400 := (hr (by cases hq : r.1.1; exact absurd (by rw [hq]; rfl) hb; rfl)).2 y1 (by simp)
  rw [e, bnd, avg (ahn ho), bnd, if_neg (fun h => h rfl), avH ho, bnd, if_pos hw, ajK (l := aao c) (j := 0), bnd, ajK (l := aao c) (j := 1), bnd, ajK (l := aao c) (j := 2), bnd]
  have hj : JL c 0 (aiU c) [adl (aao c) 0 ⟨0, 0, 0, 0, .top⟩, adl (aao c) 1 ⟨0, 0, 0, 0, .top⟩, adl (aao c) 2 ⟨0, 0, 0, 0, .top⟩] (ahS c.subs c.workers ⟨0, 0, false, .n1⟩) := avj ho fun j w hj => by
    match j, hj with
    | 0, hj => exact (Option.some.inj hj).symm
    | 1, hj => exact (Option.some.inj hj).symm
    | 2, hj => exact (Option.some.inj hj).symm
  refine aaN.bind (P := fun z => z = (0, aiU c, adl (aao c) 0 ⟨0, 0, 0, 0, .top⟩, adl (aao c) 1 ⟨0, 0, 0, 0, .top⟩, adl (aao c) 2 ⟨0, 0, 0, 0, .top⟩, ahS c.subs c.workers ⟨0, 0, false, .n1⟩, (0, [], 0, 0, 0, 0, ()), ())) (acm (fun x => x = (0, aiU c, adl (aao c) 0 ⟨0, 0, 0, 0, .top⟩, adl (aao c) 1 ⟨0, 0, 0, 0, .top⟩, adl (aao c) 2 ⟨0, 0, 0, 0, .top⟩, ahS c.subs c.workers ⟨0, 0, false, .n1⟩, (0, [], 0, 0, 0, 0, ()), ())) (fun _ => 0) (fun self x hx ih => by subst hx; exact .some_ rfl) _ _ rfl (by show 0 < _; omega)) fun z9 hz9 => ?_
  subst hz9
  rw [alC, bnd, if_neg (by decide)]
  refine (aHa ho (y1 := y1) (by omega) hj avt).bind fun z hz => ?_
  obtain ⟨zi, ze, z0, z1, z2, zc, zg, ⟨⟩⟩ := z
  obtain ⟨N, hN, hj2, hg2⟩ := hz
  have hj2 : JL c N ze [z0, z1, z2] zc := hj2
  have hg2 : EG N ze zg := hg2
  have hev := amQ.ev hj2
  have hb1 := hj2
  obtain ⟨vs, g1, _, _⟩ := hb1
  obtain ⟨b, d1, d2⟩ := ax5 (w0 := z0) (w1 := z1) (w2 := z2) (cl := zc) g1.m g1.n
  refine aaN.bind (P := fun z => z = (!b, ze, z0, z1, z2, zc, zg, ())) (aaN.of_eq (d1 _) (.some_ rfl)) fun z hz => ?_
  subst hz
  refine aaN.ite (fun _ => .some_ rfl) fun hnb => ?_
  have hb2 : b = true := by cases b; exact absurd rfl hnb; rfl
  have hD : apx c ze [z0, z1, z2] zc := d2.1 hb2
  have jd := aAr hj2 hD
  refine (agJ hg2.l (by omega)).bind fun p hp => ?_
  obtain ⟨p1, p2⟩ := hp
  refine (ajc (b := y2) (n := 300) (by omega) (by decide)).bind fun r2 hr2 => ?_
  have hr2 : r2.1.1.length ≤ 300 := hr2
  rw [p2]
  refine (aBr amR (l := r2.1.1) jd hg2 (by omega)).bind fun z hz => ?_
  obtain ⟨ui, ue, u0, u1, u2, uc, ug, ⟨⟩⟩ := z
  obtain ⟨jd2, hg3, _⟩ := hz
  have jd2 : JD c ze (N + r2.1.1.length) ue [u0, u1, u2] uc := jd2
  have hg3 : EG (N + r2.1.1.length) ue ug := hg3
  have hev2 := amR.ev jd2
  refine (agJ hg3.l (by omega)).bind fun q hq => ?_
  obtain ⟨q1, q2⟩ := hq
  obtain ⟨l, hl, hk⟩ := jd2.ev
  have lp : p.2.1.length = ze.evs.length := by rw [p1, List.length_zipWith, hg2.l]; omega
  have lq : q.2.1.length = ue.evs.length := by rw [q1, List.length_zipWith, hg3.l]; omega
  have le : ue.evs.length = ze.evs.length + l.length := by rw [hl, List.length_append]
  refine (anM (l := q.2.1) (n := ((p.2.1.length : Nat) : Int)) (by omega) (by omega) (by omega) fun i h0 h1 => ?_).bind fun s hs => ?_
  · rw [q1] at h1 ⊢
    obtain ⟨hi, e3⟩ := aus hg3.l (by omega) h1
    rw [e3]
    refine hk _ ?_
    have : ue.evs[i.toNat] = (ze.evs ++ l)[i.toNat]'(by rw [← hl]; exact hi) := by simp only [hl]
    rw [this, List.getElem_append_right (by omega)]
    exact List.getElem_mem _
  obtain ⟨u, rfl⟩ := hs
  obtain ⟨b3, d3, d4⟩ := ax5 (w0 := u0) (w1 := u1) (w2 := u2) (cl := uc) jd2.m jd2.n
  have hb3 : b3 = true := d4.2 (jd2.done hD.2.2)
  subst hb3
  exact aaN.of_eq (d3 _) (.some_ rfl)
theorem aG9 {c : Cfg} (hd : DecOk c) {env : EnvP} {w0 w1 w2 w3 : WorkerV MV} {cl : ClientV MV} {eng : ah0} {y1 : List Int} (hy : y1.length ≤ 1000000) (h : JL c 0 env [w0, w1, w2, w3] cl) (hg : EG 0 env eng) :
    aaN (lpF (atq y1 c) 18446744073709551616 (0, env, w0, w1, w2, w3, cl, eng, ())) fun z => ∃ N, N ≤ 60000 ∧ JL c N z.2.1 [z.2.2.1, z.2.2.2.1, z.2.2.2.2.1, z.2.2.2.2.2.1] z.2.2.2.2.2.2.1 ∧ EG N z.2.1 z.2.2.2.2.2.2.2.1 := by
  refine (acm (fun x => (0 ≤ x.1 ∧ x.1 ≤ 300) ∧ ∃ N : Nat, (N : Int) ≤ 200 * x.1 ∧ JL c N x.2.1 [x.2.2.1, x.2.2.2.1, x.2.2.2.2.1, x.2.2.2.2.2.1] x.2.2.2.2.2.2.1 ∧ EG N x.2.1 x.2.2.2.2.2.2.2.1) (fun x => (300 - x.1).toNat) (fun self x hx ih => ?_) _ _ ?init (by show (300 - 0 : Int).toNat < _; omega))
  case init => exact ⟨⟨Int.le_refl 0, by show (0 : Int) ≤ 300; omega⟩, 0, by show ((0 : Nat) : Int) ≤ 200 * 0; omega, h, hg⟩
  obtain ⟨i, env, w0, w1, w2, w3, cl, eng, ⟨⟩⟩ := x
  obtain ⟨⟨q0, q1⟩, N, q2, hj, hg⟩ := hx
  simp only at q0 q1 q2 hj hg
  have hw := hd.w
  have fin : ∃ M, M ≤ 60000 ∧ JL c M env [w0, w1, w2, w3] cl ∧ EG M env eng := ⟨N, by omega, hj, hg⟩
  unfold atq
  refine aaN.bind (P := fun z => z = Sum.inl (env, w0, w1, w2, w3, cl, eng, ()) ∧ i < 300 ∨ z = Sum.inr (i, env, w0, w1, w2, w3, cl, eng, ())) ?_ fun z hz => ?_
  · refine aaN.ite (fun hlt => ?_) fun _ => .some_ (.inr rfl)
    obtain ⟨vs, g1, _, _⟩ := hj
    obtain ⟨b, d1, _⟩ := ax4 (w0 := w0) (w1 := w1) (w2 := w2) (w3 := w3) (cl := cl) g1.m g1.n
    refine aaN.of_eq (d1 _) ?_
    cases b with
    | true => exact .some_ (.inr rfl)
    | false => exact .some_ (.inl ⟨rfl, hlt⟩)
  rcases hz with ⟨rfl, hlt⟩ | rfl
  · have e1 : wi (7 * i) = 7 * i := aaQ (aau (by omega))
    have e2 : wi (c.workers + 1) = c.workers + 1 := aaQ (aau (by omega))
    have e3 : wi (i + 1) = i + 1 := aaQ (aau (by omega))
    simp only
    rw [e1, e2, e3]
    refine (akP hy (by omega) (by omega)).bind fun r hr => ?_
    refine (aBq amQ (l := r.1.1) hj hg (by omega)).bind fun z hz => ?_
    obtain ⟨a1, a2, _⟩ := hz
    exact ih _ ⟨⟨by show 0 ≤ i + 1; omega, by show i + 1 ≤ 300; omega⟩, N + r.1.1.length, by show ((N + r.1.1.length : Nat) : Int) ≤ 200 * (i + 1); omega, a1, a2⟩ (by show (300 - (i + 1) : Int).toNat < (300 - i : Int).toNat; omega)
  · exact .some_ fin
theorem awf {y0 y1 y2 : List Int} {o : (Cfg × Unit) × Unit} (e : afG y0 = some o) (ho : DecOk o.1.1) (hw : o.1.1.workers = (((4 : Nat) : Int))) : aaN (abT y0 y1 y2) fun r => r.1.1 = true := by
  obtain ⟨⟨c, ⟨⟩⟩, ⟨⟩⟩ := o
  simp only at ho hw
  unfold abT
  refine (ag5 y0 [y1] (by simp)).bind fun r hr => aaN.ite (fun _ => .some_ rfl) fun hb => aaN.ite (fun _ => .some_ rfl) fun hlen => ?_
  have hy : y1.length ≤ 400 := (hr (by cases hq : r.1.1; exact absurd (by rw [hq]; rfl) hb; rfl)).2 y1 (by simp)
  rw [e, bnd, avg (ahn ho), bnd, if_neg (fun h => h rfl), avH ho, bnd, if_pos hw, ajK (l := aao c) (j := 0), bnd, ajK (l := aao c) (j := 1), bnd, ajK (l := aao c) (j := 2), bnd, ajK (l := aao c) (j := 3), bnd]
  have hj : JL c 0 (aiU c) [adl (aao c) 0 ⟨0, 0, 0, 0, .top⟩, adl (aao c) 1 ⟨0, 0, 0, 0, .top⟩, adl (aao c) 2 ⟨0, 0, 0, 0, .top⟩, adl (aao c) 3 ⟨0, 0, 0, 0, .top⟩] (ahS c.subs c.workers ⟨0, 0, false, .n1⟩) := avj ho fun j w hj => by
    match j, hj with
    | 0, hj => exact (Option.some.inj hj).symm
    | 1, hj => exact (Option.some.inj hj).symm
    | 2, hj => exact (Option.some.inj hj).symm
    | 3, hj => exact (Option.some.inj hj).symm
  refine aaN.bind (P := fun z => z = (0, aiU c, adl (aao c) 0 ⟨0, 0, 0, 0, .top⟩, adl (aao c) 1 ⟨0, 0, 0, 0, .top⟩, adl (aao c) 2 ⟨0, 0, 0, 0, .top⟩, adl (aao c) 3 ⟨0, 0, 0, 0, .top⟩, ahS c.subs c.workers ⟨0, 0, false, .n1⟩, (0, [], 0, 0, 0, 0, ()), ())) (acm (fun x => x = (0, aiU c, adl (aao c) 0 ⟨0, 0, 0, 0, .top⟩, adl (aao c) 1 ⟨0, 0, 0, 0, .top⟩, adl (aao c) 2 ⟨0, 0, 0, 0, .top⟩, adl (aao c) 3 ⟨0, 0, 0, 0, .top⟩, ahS c.subs c.workers ⟨0, 0, false, .n1⟩, (0, [], 0, 0, 0, 0, ()), ())) (fun _ => 0) (fun self x hx ih => by subst hx; exact .some_ rfl) _ _ rfl (by show 0 < _; omega)) fun z9 hz9 => ?_
  subst hz9
  rw [alC, bnd, if_neg (by decide)]
  refine (aG9 ho (y1 := y1) (by omega) hj avt).bind fun z hz => ?_
  obtain ⟨zi, ze, z0, z1, z2, z3, zc, zg, ⟨⟩⟩ := z
  obtain ⟨N, hN, hj2, hg2⟩ := hz
  have hj2 : JL c N ze [z0, z1, z2, z3] zc := hj2
  have hg2 : EG N ze zg := hg2
  have hev := amQ.ev hj2
  have hb1 := hj2
  obtain ⟨vs, g1, _, _⟩ := hb1
  obtain ⟨b, d1, d2⟩ := ax4 (w0 := z0) (w1 := z1) (w2 := z2) (w3 := z3) (cl := zc) g1.m g1.n
  refine aaN.bind (P := fun z => z = (!b, ze, z0, z1, z2, z3, zc, zg, ())) (aaN.of_eq (d1 _) (.some_ rfl)) fun z hz => ?_
  subst hz
  refine aaN.ite (fun _ => .some_ rfl) fun hnb => ?_
  have hb2 : b = true := by cases b; exact absurd rfl hnb; rfl
  have hD : apx c ze [z0, z1, z2, z3] zc := d2.1 hb2
  have jd := aAr hj2 hD
  refine (agJ hg2.l (by omega)).bind fun p hp => ?_
  obtain ⟨p1, p2⟩ := hp
  refine (ajc (b := y2) (n := 300) (by omega) (by decide)).bind fun r2 hr2 => ?_
  have hr2 : r2.1.1.length ≤ 300 := hr2
  rw [p2]
  refine (aBq amR (l := r2.1.1) jd hg2 (by omega)).bind fun z hz => ?_
  obtain ⟨ui, ue, u0, u1, u2, u3, uc, ug, ⟨⟩⟩ := z
  obtain ⟨jd2, hg3, _⟩ := hz
  have jd2 : JD c ze (N + r2.1.1.length) ue [u0, u1, u2, u3] uc := jd2
  have hg3 : EG (N + r2.1.1.length) ue ug := hg3
  have hev2 := amR.ev jd2
  refine (agJ hg3.l (by omega)).bind fun q hq => ?_
  obtain ⟨q1, q2⟩ := hq
  obtain ⟨l, hl, hk⟩ := jd2.ev
  have lp : p.2.1.length = ze.evs.length := by rw [p1, List.length_zipWith, hg2.l]; omega
  have lq : q.2.1.length = ue.evs.length := by rw [q1, List.length_zipWith, hg3.l]; omega
  have le : ue.evs.length = ze.evs.length + l.length := by rw [hl, List.length_append]
  refine (anM (l := q.2.1) (n := ((p.2.1.length : Nat) : Int)) (by omega) (by omega) (by omega) fun i h0 h1 => ?_).bind fun s hs => ?_
  · rw [q1] at h1 ⊢
    obtain ⟨hi, e3⟩ := aus hg3.l (by omega) h1
    rw [e3]
    refine hk _ ?_
    have : ue.evs[i.toNat] = (ze.evs ++ l)[i.toNat]'(by rw [← hl]; exact hi) := by simp only [hl]
    rw [this, List.getElem_append_right (by omega)]
    exact List.getElem_mem _
  obtain ⟨u, rfl⟩ := hs
  obtain ⟨b3, d3, d4⟩ := ax4 (w0 := u0) (w1 := u1) (w2 := u2) (w3 := u3) (cl := uc) jd2.m jd2.n
  have hb3 : b3 = true := d4.2 (jd2.done hD.2.2)
  subst hb3
  exact aaN.of_eq (d3 _) (.some_ rfl)
theorem aAL {y0 y1 y2 : List Int} (hb : ∀ x ∈ y0, 0 ≤ x ∧ x ≤ 255) :
    aaN (abh y0 y1 y2) (fun r => r.1.1 = true) ∨ aaN (abV y0 y1 y2) (fun r => r.1.1 = true) ∨ aaN (abU y0 y1 y2) (fun r => r.1.1 = true) ∨ aaN (abT y0 y1 y2) (fun r => r.1.1 = true) := by
  by_cases hl : y0.length ≤ 400
  · obtain ⟨o, e, ho⟩ := aub hb (by omega)
    have hw := ho.w
    have hv : o.1.1.workers = ((1 : Nat) : Int) ∨ o.1.1.workers = ((2 : Nat) : Int) ∨ o.1.1.workers = ((3 : Nat) : Int) ∨ o.1.1.workers = ((4 : Nat) : Int) := by omega
    rcases hv with h | h | h | h
    · exact .inl (awi e ho h)
    · exact .inr (.inl (awh e ho h))
    · exact .inr (.inr (.inl (awg e ho h)))
    · exact .inr (.inr (.inr (awf e ho h)))
  · refine .inl ?_
    unfold abh
    refine (ag5 y0 [y1] (by simp)).bind fun r hr => aaN.ite (fun _ => .some_ rfl) fun h => ?_
    exfalso
    have h1 : r.1.1 = true := by revert h; cases r.1.1 <;> simp
    exact hl (hr h1).1
end
end Go.Proofs.YtclaldommncdbaaGreat
