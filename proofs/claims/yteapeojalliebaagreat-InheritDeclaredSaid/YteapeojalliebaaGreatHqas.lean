/- An engine's loops, Done and Events by names. An engine's loops, for any invariant of its machines. An engine's levels between its entries, as an invariant of an engine. InheritDeclared's own loops by names. InheritDeclared: its own loops answer what its words say. InheritDeclared: what it asks of the Level cells and of the number of tasks holds. An engine's loops, for any invariant of its machines and every number of workers. InheritDeclared by names. InheritDeclared by names. InheritDeclared by names. InheritDeclared by names. -/
import Derived.Test.YteapeojalliebaaGreatHqar
import Derived.Test.YteapeojalliebaaGreatHqaq
set_option linter.all false
namespace Go.Proofs.YteapeojalliebaaGreat
section
open Go Go.RowKit
set_option maxRecDepth 100000
variable [Tb]
abbrev apY := Int × List Int × Int × Int × Int × Int × Unit
noncomputable def ajS {σ : Type} (c0 : Int) (env : EnvP) (eng : apY) (self : EnvP → apY → Option σ) : Option σ :=
   (abL env.m).bind fun r22 =>
   if c0 < r22.1.1 then
   (afT r22.2.1).bind fun r23 =>
   (lpF (σ := EnvP × (Int × List Int × Int × Int × Int × Int × Unit) × Unit) (β := EnvP × (Int × List Int × Int × Int × Int × Int × Unit) × Unit) (fun self26 x24 =>
   if ((x24.2.1.2.1.length : Nat) : Int) < ((x24.1.evs.length : Nat) : Int) then
   if (((x24.2.1.2.1.length + ([x24.2.1.1] : List Int).length : Nat)) : Int) < 1000000000000 then
   self26 (x24.1, (x24.2.1.1, x24.2.1.2.1 ++ ([x24.2.1.1]), x24.2.1.2.2.1, x24.2.1.2.2.2.1, x24.2.1.2.2.2.2.1, x24.2.1.2.2.2.2.2.1, ()), ())
   else none
   else
   some (x24.1, x24.2.1, ())
   ) 18446744073709551616 (({ env with m := r23.2.1 } : EnvP), (eng.1, eng.2.1, r23.1.1.kind, r23.1.1.cell, r23.1.1.old, r23.1.1.new, ()), ())).bind fun z25 =>
   self z25.1 (wi (z25.2.1.1 + 1), z25.2.1.2.1, z25.2.1.2.2.1, z25.2.1.2.2.2.1, z25.2.1.2.2.2.2.1, z25.2.1.2.2.2.2.2.1, ())
   else
   (lpF (σ := EnvP × (Int × List Int × Int × Int × Int × Int × Unit) × Unit) (β := EnvP × (Int × List Int × Int × Int × Int × Int × Unit) × Unit) (fun self29 x27 =>
   if ((x27.2.1.2.1.length : Nat) : Int) < ((x27.1.evs.length : Nat) : Int) then
   if (((x27.2.1.2.1.length + ([x27.2.1.1] : List Int).length : Nat)) : Int) < 1000000000000 then
   self29 (x27.1, (x27.2.1.1, x27.2.1.2.1 ++ ([x27.2.1.1]), x27.2.1.2.2.1, x27.2.1.2.2.2.1, x27.2.1.2.2.2.2.1, x27.2.1.2.2.2.2.2.1, ()), ())
   else none
   else
   some (x27.1, x27.2.1, ())
   ) 18446744073709551616 (({ env with m := r22.2.1 } : EnvP), (eng.1, eng.2.1, 0, 0, 0, 0, ()), ())).bind fun z28 =>
   self z28.1 (wi (z28.2.1.1 + 1), z28.2.1.2.1, z28.2.1.2.2.1, z28.2.1.2.2.2.1, z28.2.1.2.2.2.2.1, z28.2.1.2.2.2.2.2.1, ())
abbrev atM := Int × EnvP × (WorkerV MV) × (ClientV MV) × (Int × List Int × Int × Int × Int × Int × Unit) × Unit
noncomputable def aoD (l : List EntV) (x12 : atM) (r15 : (Int × Unit) × (MemV × Unit)) :=
   ((
   if ((aqG l x12.1).kind) = 0 then
   (adc (aqG l x12.1) 2).bind fun r16 =>
   if r16.1.1 = ((1 : Nat) : Int) then
   (aas x12.2.2.2.1 ({ x12.2.1 with m := r15.2.1 } : EnvP)).bind fun r17 =>
   some (r17.2.2.1, x12.2.2.1, r17.2.1, x12.2.2.2.2.1, ())
   else
   if r16.1.1 = ((0 : Nat) : Int) then
   (aaj x12.2.2.1 ({ x12.2.1 with m := r15.2.1 } : EnvP)).bind fun r18 =>
   some (r18.2.2.1, r18.2.1, x12.2.2.2.1, x12.2.2.2.2.1, ())
   else
   none
   else
   if ((aqG l x12.1).kind) = 1 then
   (ad8 x12.2.1.k).bind fun r19 =>
   some (({ x12.2.1 with m := r15.2.1, k := r19.2.1 } : EnvP), x12.2.2.1, x12.2.2.2.1, x12.2.2.2.2.1, ())
   else
   if ((aqG l x12.1).kind) = 2 then
   (aeS x12.2.1.k ((aqG l x12.1).value)).bind fun r20 =>
   some (({ x12.2.1 with m := r15.2.1, k := r20.2.1 } : EnvP), x12.2.2.1, x12.2.2.2.1, x12.2.2.2.2.1, ())
   else
   some (({ x12.2.1 with m := r15.2.1 } : EnvP), x12.2.2.1, x12.2.2.2.1, x12.2.2.2.2.1, ())
   ) : Option (EnvP × (WorkerV MV) × (ClientV MV) × (Int × List Int × Int × Int × Int × Int × Unit) × Unit))
noncomputable def aoH (l : List EntV) (self14 : atM → Option (atM)) (x12 : atM) : Option (atM) :=
 if x12.1 < ((l.length : Nat) : Int) then
  if 0 ≤ x12.1 ∧ x12.1 < ((l.length : Nat) : Int) then
   (abL x12.2.1.m).bind fun r15 =>
   (aoD l x12 r15).bind fun z21 =>
   ajS r15.1.1 z21.1 z21.2.2.2.1 (fun e g => self14 (wi (x12.1 + 1), e, z21.2.1, z21.2.2.1, g, ()))
  else none
 else
 some (x12.1, x12.2.1, x12.2.2.1, x12.2.2.2.1, x12.2.2.2.2.1, ())
abbrev atK := Int × EnvP × (WorkerV MV) × (WorkerV MV) × (ClientV MV) × (Int × List Int × Int × Int × Int × Int × Unit) × Unit
noncomputable def aoC (l : List EntV) (x13 : atK) (r16 : (Int × Unit) × (MemV × Unit)) :=
   ((
   if ((aqG l x13.1).kind) = 0 then
   (adc (aqG l x13.1) 3).bind fun r17 =>
   if r17.1.1 = ((2 : Nat) : Int) then
   (aas x13.2.2.2.2.1 ({ x13.2.1 with m := r16.2.1 } : EnvP)).bind fun r18 =>
   some (r18.2.2.1, x13.2.2.1, x13.2.2.2.1, r18.2.1, x13.2.2.2.2.2.1, ())
   else
   if r17.1.1 = ((1 : Nat) : Int) then
   (aaj x13.2.2.2.1 ({ x13.2.1 with m := r16.2.1 } : EnvP)).bind fun r19 =>
   some (r19.2.2.1, x13.2.2.1, r19.2.1, x13.2.2.2.2.1, x13.2.2.2.2.2.1, ())
   else
   if r17.1.1 = ((0 : Nat) : Int) then
   (aaj x13.2.2.1 ({ x13.2.1 with m := r16.2.1 } : EnvP)).bind fun r20 =>
   some (r20.2.2.1, r20.2.1, x13.2.2.2.1, x13.2.2.2.2.1, x13.2.2.2.2.2.1, ())
   else
   none
   else
   if ((aqG l x13.1).kind) = 1 then
   (ad8 x13.2.1.k).bind fun r21 =>
   some (({ x13.2.1 with m := r16.2.1, k := r21.2.1 } : EnvP), x13.2.2.1, x13.2.2.2.1, x13.2.2.2.2.1, x13.2.2.2.2.2.1, ())
   else
   if ((aqG l x13.1).kind) = 2 then
   (aeS x13.2.1.k ((aqG l x13.1).value)).bind fun r22 =>
   some (({ x13.2.1 with m := r16.2.1, k := r22.2.1 } : EnvP), x13.2.2.1, x13.2.2.2.1, x13.2.2.2.2.1, x13.2.2.2.2.2.1, ())
   else
   some (({ x13.2.1 with m := r16.2.1 } : EnvP), x13.2.2.1, x13.2.2.2.1, x13.2.2.2.2.1, x13.2.2.2.2.2.1, ())
   ) : Option (EnvP × (WorkerV MV) × (WorkerV MV) × (ClientV MV) × (Int × List Int × Int × Int × Int × Int × Unit) × Unit))
noncomputable def aoG (l : List EntV) (self15 : atK → Option (atK)) (x13 : atK) : Option (atK) :=
 if x13.1 < ((l.length : Nat) : Int) then
  if 0 ≤ x13.1 ∧ x13.1 < ((l.length : Nat) : Int) then
   (abL x13.2.1.m).bind fun r16 =>
   (aoC l x13 r16).bind fun z23 =>
   ajS r16.1.1 z23.1 z23.2.2.2.2.1 (fun e g => self15 (wi (x13.1 + 1), e, z23.2.1, z23.2.2.1, z23.2.2.2.1, g, ()))
  else none
 else
 some (x13.1, x13.2.1, x13.2.2.1, x13.2.2.2.1, x13.2.2.2.2.1, x13.2.2.2.2.2.1, ())
abbrev atJ := Int × EnvP × (WorkerV MV) × (WorkerV MV) × (WorkerV MV) × (ClientV MV) × (Int × List Int × Int × Int × Int × Int × Unit) × Unit
noncomputable def aoB (l : List EntV) (x14 : atJ) (r17 : (Int × Unit) × (MemV × Unit)) :=
   ((
   if ((aqG l x14.1).kind) = 0 then
   (adc (aqG l x14.1) 4).bind fun r18 =>
   if r18.1.1 = ((3 : Nat) : Int) then
   (aas x14.2.2.2.2.2.1 ({ x14.2.1 with m := r17.2.1 } : EnvP)).bind fun r19 =>
   some (r19.2.2.1, x14.2.2.1, x14.2.2.2.1, x14.2.2.2.2.1, r19.2.1, x14.2.2.2.2.2.2.1, ())
   else
   if r18.1.1 = ((2 : Nat) : Int) then
   (aaj x14.2.2.2.2.1 ({ x14.2.1 with m := r17.2.1 } : EnvP)).bind fun r20 =>
   some (r20.2.2.1, x14.2.2.1, x14.2.2.2.1, r20.2.1, x14.2.2.2.2.2.1, x14.2.2.2.2.2.2.1, ())
   else
   if r18.1.1 = ((1 : Nat) : Int) then
   (aaj x14.2.2.2.1 ({ x14.2.1 with m := r17.2.1 } : EnvP)).bind fun r21 =>
   some (r21.2.2.1, x14.2.2.1, r21.2.1, x14.2.2.2.2.1, x14.2.2.2.2.2.1, x14.2.2.2.2.2.2.1, ())
   else
   if r18.1.1 = ((0 : Nat) : Int) then
   (aaj x14.2.2.1 ({ x14.2.1 with m := r17.2.1 } : EnvP)).bind fun r22 =>
   some (r22.2.2.1, r22.2.1, x14.2.2.2.1, x14.2.2.2.2.1, x14.2.2.2.2.2.1, x14.2.2.2.2.2.2.1, ())
   else
   none
   else
   if ((aqG l x14.1).kind) = 1 then
   (ad8 x14.2.1.k).bind fun r23 =>
   some (({ x14.2.1 with m := r17.2.1, k := r23.2.1 } : EnvP), x14.2.2.1, x14.2.2.2.1, x14.2.2.2.2.1, x14.2.2.2.2.2.1, x14.2.2.2.2.2.2.1, ())
   else
   if ((aqG l x14.1).kind) = 2 then
   (aeS x14.2.1.k ((aqG l x14.1).value)).bind fun r24 =>
   some (({ x14.2.1 with m := r17.2.1, k := r24.2.1 } : EnvP), x14.2.2.1, x14.2.2.2.1, x14.2.2.2.2.1, x14.2.2.2.2.2.1, x14.2.2.2.2.2.2.1, ())
   else
   some (({ x14.2.1 with m := r17.2.1 } : EnvP), x14.2.2.1, x14.2.2.2.1, x14.2.2.2.2.1, x14.2.2.2.2.2.1, x14.2.2.2.2.2.2.1, ())
   ) : Option (EnvP × (WorkerV MV) × (WorkerV MV) × (WorkerV MV) × (ClientV MV) × (Int × List Int × Int × Int × Int × Int × Unit) × Unit))
noncomputable def aoF (l : List EntV) (self16 : atJ → Option (atJ)) (x14 : atJ) : Option (atJ) :=
 if x14.1 < ((l.length : Nat) : Int) then
  if 0 ≤ x14.1 ∧ x14.1 < ((l.length : Nat) : Int) then
   (abL x14.2.1.m).bind fun r17 =>
   (aoB l x14 r17).bind fun z25 =>
   ajS r17.1.1 z25.1 z25.2.2.2.2.2.1 (fun e g => self16 (wi (x14.1 + 1), e, z25.2.1, z25.2.2.1, z25.2.2.2.1, z25.2.2.2.2.1, g, ()))
  else none
 else
 some (x14.1, x14.2.1, x14.2.2.1, x14.2.2.2.1, x14.2.2.2.2.1, x14.2.2.2.2.2.1, x14.2.2.2.2.2.2.1, ())
abbrev atI := Int × EnvP × (WorkerV MV) × (WorkerV MV) × (WorkerV MV) × (WorkerV MV) × (ClientV MV) × (Int × List Int × Int × Int × Int × Int × Unit) × Unit
noncomputable def aoA (l : List EntV) (x15 : atI) (r18 : (Int × Unit) × (MemV × Unit)) :=
   ((
   if ((aqG l x15.1).kind) = 0 then
   (adc (aqG l x15.1) 5).bind fun r19 =>
   if r19.1.1 = ((4 : Nat) : Int) then
   (aas x15.2.2.2.2.2.2.1 ({ x15.2.1 with m := r18.2.1 } : EnvP)).bind fun r20 =>
   some (r20.2.2.1, x15.2.2.1, x15.2.2.2.1, x15.2.2.2.2.1, x15.2.2.2.2.2.1, r20.2.1, x15.2.2.2.2.2.2.2.1, ())
   else
   if r19.1.1 = ((3 : Nat) : Int) then
   (aaj x15.2.2.2.2.2.1 ({ x15.2.1 with m := r18.2.1 } : EnvP)).bind fun r21 =>
   some (r21.2.2.1, x15.2.2.1, x15.2.2.2.1, x15.2.2.2.2.1, r21.2.1, x15.2.2.2.2.2.2.1, x15.2.2.2.2.2.2.2.1, ())
   else
   if r19.1.1 = ((2 : Nat) : Int) then
   (aaj x15.2.2.2.2.1 ({ x15.2.1 with m := r18.2.1 } : EnvP)).bind fun r22 =>
   some (r22.2.2.1, x15.2.2.1, x15.2.2.2.1, r22.2.1, x15.2.2.2.2.2.1, x15.2.2.2.2.2.2.1, x15.2.2.2.2.2.2.2.1, ())
   else
   if r19.1.1 = ((1 : Nat) : Int) then
   (aaj x15.2.2.2.1 ({ x15.2.1 with m := r18.2.1 } : EnvP)).bind fun r23 =>
   some (r23.2.2.1, x15.2.2.1, r23.2.1, x15.2.2.2.2.1, x15.2.2.2.2.2.1, x15.2.2.2.2.2.2.1, x15.2.2.2.2.2.2.2.1, ())
   else
   if r19.1.1 = ((0 : Nat) : Int) then
   (aaj x15.2.2.1 ({ x15.2.1 with m := r18.2.1 } : EnvP)).bind fun r24 =>
   some (r24.2.2.1, r24.2.1, x15.2.2.2.1, x15.2.2.2.2.1, x15.2.2.2.2.2.1, x15.2.2.2.2.2.2.1, x15.2.2.2.2.2.2.2.1, ())
   else
   none
   else
   if ((aqG l x15.1).kind) = 1 then
   (ad8 x15.2.1.k).bind fun r25 =>
   some (({ x15.2.1 with m := r18.2.1, k := r25.2.1 } : EnvP), x15.2.2.1, x15.2.2.2.1, x15.2.2.2.2.1, x15.2.2.2.2.2.1, x15.2.2.2.2.2.2.1, x15.2.2.2.2.2.2.2.1, ())
   else
   if ((aqG l x15.1).kind) = 2 then
   (aeS x15.2.1.k ((aqG l x15.1).value)).bind fun r26 =>
   some (({ x15.2.1 with m := r18.2.1, k := r26.2.1 } : EnvP), x15.2.2.1, x15.2.2.2.1, x15.2.2.2.2.1, x15.2.2.2.2.2.1, x15.2.2.2.2.2.2.1, x15.2.2.2.2.2.2.2.1, ())
   else
   some (({ x15.2.1 with m := r18.2.1 } : EnvP), x15.2.2.1, x15.2.2.2.1, x15.2.2.2.2.1, x15.2.2.2.2.2.1, x15.2.2.2.2.2.2.1, x15.2.2.2.2.2.2.2.1, ())
   ) : Option (EnvP × (WorkerV MV) × (WorkerV MV) × (WorkerV MV) × (WorkerV MV) × (ClientV MV) × (Int × List Int × Int × Int × Int × Int × Unit) × Unit))
noncomputable def aoE (l : List EntV) (self17 : atI → Option (atI)) (x15 : atI) : Option (atI) :=
 if x15.1 < ((l.length : Nat) : Int) then
  if 0 ≤ x15.1 ∧ x15.1 < ((l.length : Nat) : Int) then
   (abL x15.2.1.m).bind fun r18 =>
   (aoA l x15 r18).bind fun z27 =>
   ajS r18.1.1 z27.1 z27.2.2.2.2.2.2.1 (fun e g => self17 (wi (x15.1 + 1), e, z27.2.1, z27.2.2.1, z27.2.2.2.1, z27.2.2.2.2.1, z27.2.2.2.2.2.1, g, ()))
  else none
 else
 some (x15.1, x15.2.1, x15.2.2.1, x15.2.2.2.1, x15.2.2.2.2.1, x15.2.2.2.2.2.1, x15.2.2.2.2.2.2.1, x15.2.2.2.2.2.2.2.1, ())
abbrev aGf := Int × List St × apY × Unit
noncomputable def aD3 (evs : List Ev) (self : aGf → Option aGf) (x : aGf) : Option aGf :=
 if x.1 < ((evs.length : Nat) : Int) then
  if 0 ≤ x.1 ∧ x.1 < ((evs.length : Nat) : Int) then
   if 0 ≤ x.1 ∧ x.1 < ((x.2.2.1.2.1.length : Nat) : Int) then
   if (((x.2.1.length + ([(⟨afP x.2.2.1.2.1 x.1, aaS evs x.1⟩ : St)] : List St).length : Nat)) : Int) < 1000000000000 then
   self (wi (x.1 + 1), x.2.1 ++ ([(⟨afP x.2.2.1.2.1 x.1, aaS evs x.1⟩ : St)]), x.2.2.1, ())
   else none
   else none
  else none
 else some x
structure EG (N : Nat) (e : EnvP) (g : apY) : Prop where
  n : g.1 = (N : Int)
  l : g.2.1.length = e.evs.length
  r : ∀ s ∈ g.2.1, 0 ≤ s ∧ s < (N : Int)
  s : g.2.1.Pairwise (· ≤ ·)
theorem aoQ {N : Nat} {env : EnvP} {eng : apY} (F : (EnvP × apY × Unit → Option (EnvP × apY × Unit)) → EnvP × apY × Unit → Option (EnvP × apY × Unit))
    (hF : ∀ self x, F self x = if ((x.2.1.2.1.length : Nat) : Int) < ((x.1.evs.length : Nat) : Int) then
        if (((x.2.1.2.1.length + ([x.2.1.1] : List Int).length : Nat)) : Int) < 1000000000000 then self (x.1, (x.2.1.1, x.2.1.2.1 ++ ([x.2.1.1]), x.2.1.2.2.1, x.2.1.2.2.2.1, x.2.1.2.2.2.2.1, x.2.1.2.2.2.2.2.1, ()), ()) else none
      else some (x.1, (x.2.1.1, x.2.1.2.1, x.2.1.2.2.1, x.2.1.2.2.2.1, x.2.1.2.2.2.2.1, x.2.1.2.2.2.2.2.1, ()), ()))
    (hn : eng.1 = (N : Int)) (h : eng.2.1.length ≤ env.evs.length) (he : env.evs.length ≤ 999999999) (hr : ∀ s ∈ eng.2.1, 0 ≤ s ∧ s < (N : Int)) (hs : eng.2.1.Pairwise (· ≤ ·)) :
    aaK (lpF F 18446744073709551616 (env, eng, ())) fun z => z.1 = env ∧ z.2.1.1 = (N : Int) ∧ z.2.1.2.1.length = env.evs.length ∧ (∀ s ∈ z.2.1.2.1, 0 ≤ s ∧ s < (N : Int) + 1) ∧ z.2.1.2.1.Pairwise (· ≤ ·) := by
  refine acd (fun x => x.1 = env ∧ x.2.1.1 = (N : Int) ∧ x.2.1.2.1.length ≤ env.evs.length ∧ (∀ s ∈ x.2.1.2.1, 0 ≤ s ∧ s < (N : Int) + 1) ∧ x.2.1.2.1.Pairwise (· ≤ ·)) (fun x => env.evs.length - x.2.1.2.1.length) (fun self x hx ih => ?_) _ _ ⟨rfl, hn, h, fun s k => by have := hr s k; omega, hs⟩ (by show env.evs.length - _ < _; omega)
  obtain ⟨e, ⟨n, st, a, b, c, d, ⟨⟩⟩, ⟨⟩⟩ := x
  obtain ⟨h1, h2, h3, h4, h5⟩ := hx
  simp only at h1 h2 h3 h4 h5
  subst h1
  subst h2
  rw [hF]
  refine aaK.ite (fun hlt => ?_) fun hge => .some_ ⟨rfl, rfl, ?_, h4, h5⟩
  · have hlt : ((st.length : Nat) : Int) < ((e.evs.length : Nat) : Int) := hlt
    refine aaK.guard (by simp only [List.length_singleton]; omega) fun _ => ?_
    refine ih _ ⟨rfl, rfl, ?_, ?_, ?_⟩ ?_
    · show (st ++ [(N : Int)]).length ≤ _
      rw [List.length_append, List.length_singleton]
      omega
    · intro s hs
      rcases List.mem_append.1 hs with k | k
      · exact h4 s k
      · have k2 : s = (N : Int) := List.mem_singleton.1 k
        omega
    · show (st ++ [(N : Int)]).Pairwise (· ≤ ·)
      rw [List.pairwise_append]
      exact ⟨h5, by simp, fun x hx y hy => by rw [List.mem_singleton.1 hy]; have := h4 x hx; omega⟩
    · show e.evs.length - (st ++ [(N : Int)]).length < e.evs.length - st.length
      rw [List.length_append, List.length_singleton]
      omega
  · have hge : ¬ ((st.length : Nat) : Int) < ((e.evs.length : Nat) : Int) := hge
    show st.length = e.evs.length
    have h3 : st.length ≤ e.evs.length := h3
    omega
theorem auZ {σ : Type} {N : Nat} {c0 : Int} {env e0 : EnvP} {eng : apY} {self : EnvP → apY → Option σ} {P : σ → Prop}
    (hg : EG N e0 eng) (hev : ∃ l, env.evs = e0.evs ++ l) (he : env.evs.length ≤ 999999999) (hN : N ≤ 1000000)
    (hs : ∀ eng' : apY, EG (N + 1) env (wi (eng'.1 + 1), eng'.2) → aaK (self env (wi (eng'.1 + 1), eng'.2.1, eng'.2.2.1, eng'.2.2.2.1, eng'.2.2.2.2.1, eng'.2.2.2.2.2.1, ())) P) : aaK (ajS c0 env eng self) P := by
  obtain ⟨l, hl⟩ := hev
  have hle : eng.2.1.length ≤ env.evs.length := by rw [hg.l, hl, List.length_append]; omega
  have fin : ∀ z : EnvP × apY × Unit, (z.1 = env ∧ z.2.1.1 = (N : Int) ∧ z.2.1.2.1.length = env.evs.length ∧ (∀ s ∈ z.2.1.2.1, 0 ≤ s ∧ s < (N : Int) + 1) ∧ z.2.1.2.1.Pairwise (· ≤ ·)) → aaK (self z.1 (wi (z.2.1.1 + 1), z.2.1.2.1, z.2.1.2.2.1, z.2.1.2.2.2.1, z.2.1.2.2.2.2.1, z.2.1.2.2.2.2.2.1, ())) P := fun z hz => by
    obtain ⟨z1, z2, z3, z4, z5⟩ := hz
    rw [z1]
    refine hs z.2.1 ⟨?_, z3, fun s k => ?_, z5⟩
    · show wi (z.2.1.1 + 1) = _
      rw [z2, aaH (aao (by omega))]; omega
    · have := z4 s k; omega
  unfold ajS
  rw [amc, bnd]
  refine aaK.ite (fun _ => ?_) fun _ => ?_
  · rw [aDd, bnd]
    exact aaK.bind (aoQ _ (fun _ _ => rfl) hg.n (by exact hle) (by exact he) hg.r hg.s) fin
  · exact aaK.bind (aoQ _ (fun _ _ => rfl) hg.n (by exact hle) (by exact he) hg.r hg.s) fin
def stF (s : Int) (v : Ev) : St := ⟨s, v⟩
theorem aon {evs : List Ev} {g : apY} (h1 : g.2.1.length = evs.length) (h2 : evs.length ≤ 999999999) : aaK (lpF (aD3 evs) 18446744073709551616 (0, [], g, ())) fun z => z.2.1 = List.zipWith stF g.2.1 evs ∧ z.2.2.1 = g := by
  have hl : (List.zipWith stF g.2.1 evs).length = evs.length := by rw [List.length_zipWith, h1]; omega
  refine (acd (fun x => 0 ≤ x.1 ∧ x.1 ≤ (evs.length : Int) ∧ x.2.1 = (List.zipWith stF g.2.1 evs).take x.1.toNat ∧ x.2.2.1 = g) (fun x => ((evs.length : Int) - x.1).toNat) (fun self x hx ih => ?_) _ _ ⟨Int.le_refl 0, by show (0 : Int) ≤ _; omega, rfl, rfl⟩ (by show ((evs.length : Int) - 0).toNat < _; omega))
  obtain ⟨i, l, g', ⟨⟩⟩ := x
  obtain ⟨q1, q2, q3, q4⟩ := hx
  simp only at q1 q2 q3 q4
  subst q4
  have e1 : wi (i + 1) = i + 1 := aaH (aao (by omega))
  unfold aD3
  refine aaK.ite (fun hlt => ?_) fun hge => .some_ ⟨?_, rfl⟩
  · have hlt : i < (evs.length : Int) := hlt
    have hll : l.length ≤ evs.length := by rw [q3, List.length_take]; omega
    refine .guard ⟨q1, hlt⟩ fun _ => .guard (by show 0 ≤ i ∧ i < ((g'.2.1.length : Nat) : Int); omega) fun _ => .guard (by simp only [List.length_singleton]; omega) fun _ => ?_
    show aaK (self (wi (i + 1), _)) _
    rw [e1]
    refine ih _ ⟨by show 0 ≤ i + 1; omega, by show i + 1 ≤ _; omega, ?_, rfl⟩ (by show (_ - (i + 1) : Int).toNat < (_ - i : Int).toNat; omega)
    show l ++ [_] = _
    have e2 : (i + 1).toNat = i.toNat + 1 := by omega
    have hi : i.toNat < (List.zipWith stF g'.2.1 evs).length := by omega
    rw [q3, e2, List.take_succ_eq_append_getElem hi, List.getElem_zipWith]
    have k1 : afP g'.2.1 i = g'.2.1[i.toNat]'(by omega) := by
      have := aep (α := Int) (d := (dfR 1 : TR 1)) (xs := g'.2.1) (i := i) ⟨q1, by have h1 : g'.2.1.length = evs.length := h1; have hlt : i < (evs.length : Int) := hlt; omega⟩
      rw [List.getElem?_eq_getElem (by omega)] at this
      exact (Option.some.inj this).symm
    have k2 : aaS evs i = evs[i.toNat]'(by omega) := by
      have := aep (α := Ev) (d := (dfR 2 : TR 2)) (xs := evs) (i := i) ⟨q1, hlt⟩
      rw [List.getElem?_eq_getElem (by omega)] at this
      exact (Option.some.inj this).symm
    show _ ++ [(⟨afP g'.2.1 i, aaS evs i⟩ : St)] = _
    rw [k1, k2]; rfl
  · have hge : ¬ i < (evs.length : Int) := hge
    show l = _
    rw [q3, List.take_of_length_le (by omega)]
theorem aEI {b : List Int} (hb : b.length ≤ 1000000) : aaK (aoe b) fun o => o.1.1.length ≤ 65536 := by
  unfold aoe
  refine aaK.bind (P := fun z => z.1.length ≤ 65536) (acd (fun x => 0 ≤ x.2.1 ∧ x.2.1 ≤ (b.length : Int) + 2 ∧ x.1.length ≤ 65536) (fun x => ((b.length : Int) + 2 - x.2.1).toNat) (fun self x ⟨q0, q1, q2⟩ ih => ?_) _ _ ⟨Int.le_refl 0, by show (0 : Int) ≤ (b.length : Int) + 2; omega, Nat.zero_le _⟩ (by show ((b.length : Int) + 2 - 0).toNat < _; omega)) fun z hz => .some_ hz
  have e1 : wi (x.2.1 + 1) = x.2.1 + 1 := aaH (aao (by omega))
  have e2 : wi (x.2.1 + 2) = x.2.1 + 2 := aaH (aao (by omega))
  rw [e1, e2]
  refine aaK.ite (fun h1 => aaK.ite (fun h2 => .guard (by omega) fun _ => .guard (by omega) fun _ => .guard rfl fun _ => .guard rfl fun _ => ?_) fun _ => .some_ q2) fun _ => .some_ q2
  have nx : ∀ u : EntV, aaK (self (x.1 ++ [u], x.2.1 + 2, ())) fun z => z.1.length ≤ 65536 := fun u => ih _ ⟨by show 0 ≤ x.2.1 + 2; omega, by show x.2.1 + 2 ≤ (b.length : Int) + 2; omega, by simp; omega⟩ (by show ((b.length : Int) + 2 - (x.2.1 + 2)).toNat < ((b.length : Int) + 2 - x.2.1).toNat; omega)
  refine aaK.ite (fun _ => .guard (by simp; omega) fun _ => nx _) fun _ => aaK.ite (fun _ => .guard (by simp; omega) fun _ => nx _) fun _ => .guard (by simp; omega) fun _ => nx _
theorem ajU {b : List Int} {n : Int} (hb : b.length ≤ 1000000) (hn : 0 ≤ n) : aaK (akW b n) fun o => o.1.1.length ≤ n.toNat := by
  unfold akW
  refine (aEI hb).bind fun r hr => aaK.ite (fun h => .guard (by omega) fun _ => .some_ (by show (r.1.1.take n.toNat).length ≤ n.toNat; simp; omega)) fun h => .some_ (by show r.1.1.length ≤ n.toNat; omega)
theorem ayB {x k : Int} (hk : 1 ≤ k ∧ k ≤ 1000000) : aaK (adw x k) fun o => 0 ≤ o.1.1 ∧ o.1.1 < k := by
  have h1 : Int.tmod x k < k ∧ -k < Int.tmod x k := by
    constructor
    · exact Int.tmod_lt_of_pos _ (by omega)
    · have h2 : Int.tmod (-x) k < k := Int.tmod_lt_of_pos _ (by omega)
      rw [Int.neg_tmod] at h2
      omega
  unfold adw
  rw [if_neg (by omega), if_pos (by omega)]
  refine aaK.ite (fun hl => ?_) fun hl => ?_
  · rw [if_pos (by omega), aaH (aao (by omega))]
    exact .some_ ⟨by show 0 ≤ Int.tmod x k + k; omega, by show Int.tmod x k + k < k; omega⟩
  · rw [if_pos (by omega)]
    exact .some_ ⟨by show 0 ≤ Int.tmod x k; omega, h1.1⟩
theorem agK {l : List Int} {i k : Int} (hl : l.length ≤ 1000000) (hi : 0 ≤ i ∧ i ≤ 1000000) (hk : 1 ≤ k ∧ k ≤ 1000000) : aaK (aaO l i k) fun o => 0 ≤ o.1.1 ∧ o.1.1 < k := by
  unfold aaO
  refine aaK.ite (fun h => .some_ ⟨Int.le_refl 0, by show (0 : Int) < k; omega⟩) fun h => ?_
  have h0 : (0 : Int) < ((l.length : Nat) : Int) := by omega
  have h1 := aqO (a := i) (b := ((l.length : Nat) : Int)) (by omega) hi.1
  have h2 : 0 ≤ Int.tdiv i ((l.length : Nat) : Int) := Int.tdiv_nonneg hi.1 (by omega)
  have h3 : Int.tdiv i ((l.length : Nat) : Int) ≤ 1000000 := Int.le_trans (Int.tdiv_le_self _ hi.1) hi.2
  have h4 := aqO (a := Int.tdiv i ((l.length : Nat) : Int)) (b := 7) (by decide) h2
  rw [aaH (x := Int.tdiv i ((l.length : Nat) : Int)) (aao (by omega)), aaH (x := 1 + Int.tmod (Int.tdiv i ((l.length : Nat) : Int)) 7) (aao (by omega))]
  refine .guard (by omega) fun _ => .guard h1 fun _ => .guard (by omega) fun _ => .guard (by omega) fun _ => ?_
  exact (ayB hk).bind fun r hr => .some_ hr
theorem am0 {l : List EntV} {x : EntV} {i : Int} (hl : l.length ≤ 1000000) (hi : 0 ≤ i ∧ i ≤ (l.length : Int)) : aaK (abI l x i) fun o => o.1.1.length = l.length + 1 := by
  have ht : (l.take i.toNat).length = i.toNat := by rw [List.length_take]; omega
  have hd : (l.drop i.toNat).length = l.length - i.toNat := by rw [List.length_drop]
  unfold abI
  refine .guard hi fun _ => .guard (by rw [ht]; show ((0 + i.toNat : Nat) : Int) < _; omega) fun _ => .guard (by simp only [List.nil_append, ht, List.length_singleton]; omega) fun _ => .guard hi fun _ => .guard (by simp only [List.nil_append, List.length_append, ht, hd, List.length_singleton]; omega) fun _ => .some_ ?_
  show ((([] ++ l.take i.toNat) ++ [x]) ++ l.drop i.toNat).length = _
  simp only [List.nil_append, List.length_append, ht, hd, List.length_singleton]
  omega
theorem axv {l : List Int} {a k : Int} (hl : l.length ≤ 1000000) (ha : 0 ≤ a ∧ a ≤ 10000) (hk : 1 ≤ k ∧ k ≤ 100) : aaK (adx l a k) fun o => o.1.1.length ≤ 200 := by
  unfold adx
  refine aaK.bind (P := fun z => (z.1.length : Int) = k) (acd (fun x => 0 ≤ x.2.1 ∧ x.2.1 ≤ k ∧ (x.1.length : Int) = x.2.1) (fun x => (k - x.2.1).toNat) (fun self x ⟨q0, q1, q2⟩ ih => ?istep) _ _ ⟨Int.le_refl 0, by show (0 : Int) ≤ k; omega, rfl⟩ (by show (k - 0).toNat < _; omega)) fun z hz => ?icont
  case istep =>
    have e1 : wi (x.2.1 + 1) = x.2.1 + 1 := aaH (aao (by omega))
    have e2 : wi (a + x.2.1) = a + x.2.1 := aaH (aao (by omega))
    refine aaK.ite (fun hlt => ?_) fun hge => .some_ (by show (x.1.length : Int) = k; omega)
    rw [e1, e2]
    show aaK ((aaO l (a + x.2.1) (x.2.1 + 1)).bind _) _
    refine (agK hl (by omega) (by omega)).bind fun r hr => ?_
    refine (am0 (by omega) ⟨hr.1, by omega⟩).bind fun s hs => ih _ ⟨by show 0 ≤ x.2.1 + 1; omega, by show x.2.1 + 1 ≤ k; omega, by show (s.1.1.length : Int) = x.2.1 + 1; omega⟩ (by show (k - (x.2.1 + 1)).toNat < (k - x.2.1).toNat; omega)
  case icont =>
    have e3 : wi (a + k) = a + k := aaH (aao (by omega))
    have e4 : wi (k + 1) = k + 1 := aaH (aao (by omega))
    have e5 : wi (a + k + 1) = a + k + 1 := aaH (aao (by omega))
    rw [e3, e4]
    refine (agK hl (by omega) (by omega)).bind fun r7 h7 => ?_
    refine (am0 (by omega) ⟨h7.1, by omega⟩).bind fun r8 h8 => ?_
    rw [e5]
    refine (agK (k := 3) hl (by omega) (by decide)).bind fun r9 h9 => ?_
    refine aaK.bind (P := fun z => z.1.length ≤ 200) (acd (fun x => 0 ≤ x.2.1 ∧ x.2.1 ≤ 2 ∧ (x.1.length : Int) + x.2.1 ≤ k + 3) (fun x => x.2.1.toNat) (fun self x ⟨q0, q1, q2⟩ ih => ?_) _ _ ⟨h9.1, by show r9.1.1 ≤ 2; omega, by show (r8.1.1.length : Int) + r9.1.1 ≤ k + 3; omega⟩ (by show r9.1.1.toNat < _; omega)) fun z hz => .some_ hz
    have e6 : wi (a + k + x.2.1) = a + k + x.2.1 := aaH (aao (by omega))
    have e7 : wi (a + x.2.1) = a + x.2.1 := aaH (aao (by omega))
    have e8 : wi (x.2.1 - 1) = x.2.1 - 1 := aaH (aao (by omega))
    have e9 : wi (((x.1.length : Nat) : Int) + 1) = ((x.1.length : Nat) : Int) + 1 := aaH (aao (by omega))
    refine aaK.ite (fun hlt => ?_) fun _ => .some_ (by show x.1.length ≤ 200; omega)
    rw [e6, e7, e8, e9]
    refine (agK hl (by omega) (by omega)).bind fun r13 h13 => ?_
    show aaK ((aaO l (a + x.2.1) (((x.1.length : Nat) : Int) + 1)).bind _) _
    refine (agK hl (by omega) (by omega)).bind fun r15 h15 => ?_
    refine (am0 (by omega) ⟨h15.1, by omega⟩).bind fun r16 h16 => ih _ ⟨by show 0 ≤ x.2.1 - 1; omega, by show x.2.1 - 1 ≤ 2; omega, by show (r16.1.1.length : Int) + (x.2.1 - 1) ≤ k + 3; omega⟩ (by show (x.2.1 - 1).toNat < x.2.1.toNat; omega)
structure DG (c : Cfg) (N : Nat) (e : EnvP) (pub : Nat → amp) : Prop where
  ei : EI c (1 + 3 * N) e
  m : MI c e
  n : (e.m.cells.length : Int) = abA c
  g : GI c N e pub
def WG (c : Cfg) (N : Nat) (j : Int) (w : WorkerV MV) (p : amp) : Prop := ∃ k, w = ahW (aaI c) j k ∧ ahT (1 + 3 * N) (mnC c) k ∧ awS c k ∧ aEK k = p
def CG (c : Cfg) (l : ClientV MV) (p : amp) : Prop := ∃ k, l = ar2 c.subs c.workers k ∧ aDU c k ∧ aGo c.subs k = p
def JI (c : Cfg) (N : Nat) (e : EnvP) (ws : List (WorkerV MV)) (cl : ClientV MV) : Prop :=
  ∃ pub, DG c N e pub ∧ (∀ (j : Nat) w, ws[j]? = some w → WG c N j w (pub j)) ∧ CG c cl (pub ws.length)
section
variable {c : Cfg} {N : Nat} {e e' : EnvP} {pub : Nat → amp} {w : WorkerV MV} {l : ClientV MV} {p : amp}
theorem WG.next {j : Int} (hw : WG c N j w p) : WG c (N + 1) j w p := by
  obtain ⟨k, h1, h2, h3⟩ := hw
  exact ⟨k, h1, h2.up (by omega), h3⟩
theorem DG.next (h : DG c N e pub) : DG c (N + 1) e pub := ⟨h.ei.up (by omega), h.m, h.n, h.g.up (by omega)⟩
theorem DG.clk {k : ClkV} (h : DG c N e pub) : DG c N { e with k := k } pub := ⟨h.ei.clk, h.m.ex, h.n, h.g.ex⟩
theorem DG.stp (h : DG c N e pub) (hN : N ≤ 100000) (s : Stp 2 e e') {m : Nat} {q : amp} (t : Tr c e e' (pub m) q) : DG c (N + 1) e' (aoz pub m q) := by
  have s1 := h.ei.stp (by omega) s
  have en : 1 + 3 * N + 3 = 1 + 3 * (N + 1) := by omega
  rw [en] at s1
  exact ⟨s1, t.i, by rw [(ax4 s.m h.ei.ct (by omega)).2]; exact h.n, h.g.step h.m (by omega) rfl t fun j => by unfold aoz; rfl⟩
theorem anv : EngI c (JI c) where
  w {N e ws cl j w} h hN hj := by
    obtain ⟨pub, h1, h2, h3⟩ := h
    have hl := aBG hj
    obtain ⟨k, rfl, hk, hg, hv⟩ := h2 j w hj
    rw [← h1.ei.many] at hk
    have s1 := azy (w := (j : Int)) h1.ei.ok (by omega) k hk
    have s2 := aBS (w := (j : Int)) h1.ei.ok k
    have s3 := aBR (w := (j : Int)) h1.ei.ok k hk (by omega)
    have s4 := aEf (w := (j : Int)) h1.m h1.n hg
    rw [h1.ei.many] at s3
    rw [h1.ei.l] at s1
    rw [hv] at s4
    refine ⟨_, s1, ⟨_, h1.stp hN s2 s4.1, fun i u hu => ?_, ?_⟩, s4.1.evs⟩
    · by_cases hij : i = j
      · subst hij
        rw [List.getElem?_set_self hl] at hu
        rw [acH, ← Option.some.inj hu]
        exact ⟨_, rfl, s3.up (by omega), s4.2, rfl⟩
      · rw [List.getElem?_set_ne (fun k => hij k.symm)] at hu
        rw [aek hij]
        exact (h2 i u hu).next
    · rw [List.length_set, aek (by omega)]; exact h3
  c {N e ws cl} h hN := by
    obtain ⟨pub, h1, h2, h3⟩ := h
    obtain ⟨k, rfl, hk, hv⟩ := h3
    have s1 := aBc (subs := c.subs) (me := c.workers) h1.ei.ok (by omega) k hk.1
    have s2 := aDO (subs := c.subs) (me := c.workers) h1.ei.ok k
    have s4 := aFM (me := c.workers) h1.m h1.n hk
    rw [hv] at s4
    refine ⟨_, s1, ⟨_, h1.stp hN s2 s4.1, fun i u hu => ?_, by rw [acH]; exact ⟨_, rfl, s4.2, rfl⟩⟩, s4.1.evs⟩
    have := aBG hu
    rw [aek (by omega)]; exact (h2 i u hu).next
  n {N e ws cl} h := by
    obtain ⟨pub, h1, h2, h3⟩ := h
    exact ⟨pub, h1.next, fun i u hu => (h2 i u hu).next, h3⟩
  k {N e ws cl k} h := by
    obtain ⟨pub, h1, h2, h3⟩ := h
    exact ⟨pub, h1.clk, h2, h3⟩
  ev {N e ws cl} h := by
    obtain ⟨pub, h1, h2, h3⟩ := h
    exact h1.ei.ok.ev
theorem avL (h : DecOk c) {ws : List (WorkerV MV)} (hw : ∀ (j : Nat) w, ws[j]? = some w → w = ahW (aaI c) j ⟨0, 0, 0, 0, .top⟩) : JI c 0 (aqA c) ws (ar2 c.subs c.workers ⟨0, 0, false, .n1⟩) :=
  ⟨fun _ => none, ⟨aFH h, aFg h, ayW h, aFy⟩, fun j w hj => by rw [hw j w hj]; exact ⟨_, rfl, trivial, trivial, rfl⟩, _, rfl, ⟨Int.le_refl 0, trivial⟩, rfl⟩
end
noncomputable def awm (y2 : List Int) (c : Cfg) (self : List EntV × Int × Unit → Option (List EntV × Int × Unit)) (x : List EntV × Int × Unit) : Option (List EntV × Int × Unit) :=
 if x.2.1 < ((y2.length : Nat) : Int) then
  if x.2.1 < 30 then
   (adx y2 (wi (3 * x.2.1)) (wi (c.workers + 1))).bind fun r8 =>
   if (((x.1.length + r8.1.1.length : Nat)) : Int) < 1000000000000 then
    self (x.1 ++ r8.1.1, wi (x.2.1 + 1), ())
   else none
  else
  some (x.1, x.2.1, ())
 else
 some (x.1, x.2.1, ())
noncomputable def mkX (c : Cfg) : Option (List Int × List Bool × Unit) :=
 if c.tasks = c.tasks then
  if 0 ≤ c.tasks ∧ c.tasks ≤ 1099511627776 then
   if c.tasks = c.tasks then
    if c.tasks = c.tasks then
     if 0 ≤ c.tasks ∧ c.tasks ≤ 1099511627776 then
      if c.tasks = c.tasks then
       some (List.replicate (c.tasks : Int).toNat (0 : Int), List.replicate (c.tasks : Int).toNat false, ())
      else none
     else none
    else none
   else none
  else none
 else none
noncomputable def aG2 (c : Cfg) (self : Int × List Int × Unit → Option (Int × List Int × Unit)) (x : Int × List Int × Unit) : Option (Int × List Int × Unit) :=
 if x.1 < c.tasks then
  if 0 ≤ x.1 ∧ x.1 < ((x.2.1.length : Nat) : Int) then
   self (wi (x.1 + 1), x.2.1.set x.1.toNat (-1), ())
  else none
 else
 some (x.1, x.2.1, ())
noncomputable def aC7 (c : Cfg) (h : List Ev) (self : Int × List Bool × List Int × Unit → Option ((Int × List Bool × List Int × Unit) ⊕ ((Bool × Unit) × (Unit)))) (x : Int × List Bool × List Int × Unit) : Option ((Int × List Bool × List Int × Unit) ⊕ ((Bool × Unit) × (Unit))) :=
 if x.1 < ((h.length : Nat) : Int) then
  if 0 ≤ x.1 ∧ x.1 < ((h.length : Nat) : Int) then
   if ((aaS h x.1).task) < 0 then
    Option.map Sum.inr (
     some ((false, ()), (()))
    )
   else
   if c.tasks ≤ ((aaS h x.1).task) then
    Option.map Sum.inr (
     some ((false, ()), (()))
    )
   else
   if 0 ≤ x.1 ∧ x.1 < ((h.length : Nat) : Int) then
    if ((aaS h x.1).kind) = 1 then
     if ((aaS h x.1).kind) = 1 then
      if 0 ≤ x.1 ∧ x.1 < ((h.length : Nat) : Int) then
       if 0 ≤ (aaS h x.1).task ∧ (aaS h x.1).task < ((x.2.2.1.length : Nat) : Int) then
        self (wi (x.1 + 1), x.2.1, x.2.2.1.set ((aaS h x.1).task).toNat ((aaS h x.1).level), ())
       else none
      else none
     else
     if ((aaS h x.1).kind) = 11 then
      if ((aaS h x.1).kind) = 11 then
       if 0 ≤ (aaS h x.1).task ∧ (aaS h x.1).task < ((x.2.1.length : Nat) : Int) then
        self (wi (x.1 + 1), x.2.1.set ((aaS h x.1).task).toNat true, x.2.2.1, ())
       else none
      else
      self (wi (x.1 + 1), x.2.1, x.2.2.1, ())
     else
     if ((aaS h x.1).kind) = 12 then
      if 0 ≤ (aaS h x.1).task ∧ (aaS h x.1).task < ((x.2.1.length : Nat) : Int) then
       self (wi (x.1 + 1), x.2.1.set ((aaS h x.1).task).toNat true, x.2.2.1, ())
      else none
     else
     self (wi (x.1 + 1), x.2.1, x.2.2.1, ())
    else
    if ((aaS h x.1).kind) = 3 then
     if 0 ≤ x.1 ∧ x.1 < ((h.length : Nat) : Int) then
      if 0 ≤ (aaS h x.1).task ∧ (aaS h x.1).task < ((x.2.2.1.length : Nat) : Int) then
       self (wi (x.1 + 1), x.2.1, x.2.2.1.set ((aaS h x.1).task).toNat ((aaS h x.1).level), ())
      else none
     else none
    else
    if ((aaS h x.1).kind) = 11 then
     if ((aaS h x.1).kind) = 11 then
      if 0 ≤ (aaS h x.1).task ∧ (aaS h x.1).task < ((x.2.1.length : Nat) : Int) then
       self (wi (x.1 + 1), x.2.1.set ((aaS h x.1).task).toNat true, x.2.2.1, ())
      else none
     else
     self (wi (x.1 + 1), x.2.1, x.2.2.1, ())
    else
    if ((aaS h x.1).kind) = 12 then
     if 0 ≤ (aaS h x.1).task ∧ (aaS h x.1).task < ((x.2.1.length : Nat) : Int) then
      self (wi (x.1 + 1), x.2.1.set ((aaS h x.1).task).toNat true, x.2.2.1, ())
     else none
    else
    self (wi (x.1 + 1), x.2.1, x.2.2.1, ())
   else none
  else none
 else
 some (Sum.inl (x.1, x.2.1, x.2.2.1, ()))
noncomputable def aGG (c : Cfg) (cells : List Int) (p : Int × List Bool × List Int × Unit) (self : Int × Unit → Option ((Int × Unit) ⊕ ((Bool × Unit) × (Unit)))) (x : Int × Unit) : Option ((Int × Unit) ⊕ ((Bool × Unit) × (Unit))) :=
 if x.1 < c.tasks then
  if 0 ≤ x.1 ∧ x.1 < ((p.2.2.1.length : Nat) : Int) then
   if (afP p.2.2.1 x.1) < 0 then
    self (wi (x.1 + 1), ())
   else
   (ada c x.1).bind fun r49 =>
   if 0 ≤ r49.1.1 ∧ r49.1.1 < ((cells.length : Nat) : Int) then
    if 0 ≤ x.1 ∧ x.1 < ((p.2.2.1.length : Nat) : Int) then
     if (wi (afQ cells r49.1.1)) < (afP p.2.2.1 x.1) then
      Option.map Sum.inr (
       some ((false, ()), (()))
      )
     else
     if 0 ≤ x.1 ∧ x.1 < ((p.2.1.length : Nat) : Int) then
      if (!(awO p.2.1 x.1)) = true then
       if 0 ≤ x.1 ∧ x.1 < ((p.2.2.1.length : Nat) : Int) then
        if (wi (afQ cells r49.1.1)) ≠ (afP p.2.2.1 x.1) then
         Option.map Sum.inr (
          some ((false, ()), (()))
         )
        else
        self (wi (x.1 + 1), ())
       else none
      else
      self (wi (x.1 + 1), ())
     else none
    else none
   else none
  else none
 else
 some (Sum.inl (x.1, ()))
noncomputable def awh (c : Cfg) (h : List Ev) (cells : List Int) : Option ((Bool × Unit) × Unit) :=
 (agr (mkX c) (mkX c)).bind fun z =>
 (lpF (aG2 c) 18446744073709551616 (0, z.1, ())).bind fun d =>
 (lpF (aC7 c h) 18446744073709551616 (0, z.2.1, d.2.1, ())).bind fun p => match p with
 | .inr o => some o
 | .inl p =>
 (lpF (aGG c cells p) 18446744073709551616 (0, ())).bind fun q => match q with
 | .inr o => some o
 | .inl _ =>
 (ac9 h).bind fun r =>
 if c.tasks = c.tasks then some ((decide (r.1.1 ≤ c.tasks), ()), ()) else none
def tlT {α : Type} (n : Int) (f : Int → α) : List α := (List.range n.toNat).map fun (t : Nat) => f (t : Int)
section
variable {α : Type} {n : Int} {f g : Int → α} {t : Int} {v : α}
theorem ass : (tlT n f).length = n.toNat := by unfold tlT; rw [List.length_map, List.length_range]
theorem aEo (h : 0 ≤ t ∧ t < n) : (tlT n f)[t.toNat]? = some (f t) := by
  unfold tlT
  rw [List.getElem?_map, List.getElem?_range (by omega)]
  show some (f ((t.toNat : Nat) : Int)) = _
  rw [show ((t.toNat : Nat) : Int) = t by omega]
theorem ah1 (h : ∀ t, 0 ≤ t → t < n → f t = g t) : tlT n f = tlT n g := by
  unfold tlT
  refine List.map_congr_left fun t ht => h _ (by omega) ?_
  have := List.mem_range.1 ht
  omega
theorem aBp : List.replicate n.toNat v = tlT n fun _ => v := by
  unfold tlT
  rw [List.map_const', List.length_range]
theorem aw7 (h : 0 ≤ t) : (tlT n f).set t.toNat v = tlT n fun u => if u = t then v else f u := by
  refine List.ext_getElem? fun i => ?_
  unfold tlT
  rw [List.getElem?_set, List.getElem?_map, List.length_map, List.length_range]
  by_cases hi : i < n.toNat
  · rw [List.getElem?_range hi, List.getElem?_map, List.getElem?_range hi]
    by_cases he : t.toNat = i
    · rw [if_pos he, if_pos (by omega)]
      show some v = some (if ((i : Nat) : Int) = t then v else f i)
      rw [if_pos (by omega)]
    · rw [if_neg he]
      show some (f i) = some (if ((i : Nat) : Int) = t then v else f i)
      rw [if_neg (by omega)]
  · have e1 : (List.range n.toNat)[i]? = none := List.getElem?_eq_none (by rw [List.length_range]; omega)
    rw [List.getElem?_map, e1]
    split
    · rw [if_neg (by omega)]; rfl
    · rfl
end
theorem aEn {n t : Int} {f : Int → Int} (h : 0 ≤ t ∧ t < n) : afP (tlT n f) t = f t := by
  show ((tlT n f)[t.toNat]?).getD _ = _
  rw [aEo h]; rfl
theorem aEm {n t : Int} {f : Int → Bool} (h : 0 ≤ t ∧ t < n) : awO (tlT n f) t = f t := by
  show ((tlT n f)[t.toNat]?).getD _ = _
  rw [aEo h]; rfl
theorem aAQ {l : List Ev} {i : Int} (h : 0 ≤ i ∧ i < (l.length : Int)) : ∃ hi : i.toNat < l.length, aaS l i = l[i.toNat] := by
  have hi : i.toNat < l.length := by omega
  refine ⟨hi, ?_⟩
  show (l[i.toNat]?).getD _ = _
  rw [List.getElem?_eq_getElem hi]; rfl
theorem ast {l : List Ev} {i : Int} (h : 0 ≤ i ∧ i < (l.length : Int)) : l.take (i + 1).toNat = l.take i.toNat ++ [aaS l i] := by
  obtain ⟨hi, e⟩ := aAQ h
  rw [e, show (i + 1).toNat = i.toNat + 1 by omega]
  exact List.take_succ_eq_append_getElem hi
theorem aFe {c : Cfg} (h : 0 ≤ c.tasks ∧ c.tasks ≤ 1000000) : agr (mkX c) (mkX c) = some (tlT c.tasks fun _ => 0, tlT c.tasks fun _ => false, ()) := by
  rw [akh]
  unfold mkX
  rw [if_pos rfl, if_pos (by omega), if_pos rfl, if_pos rfl, if_pos (by omega), if_pos rfl, aBp, aBp]
theorem aA2 {c : Cfg} (h : 0 ≤ c.tasks ∧ c.tasks ≤ 1000000) : aaK (lpF (aG2 c) 18446744073709551616 (0, tlT c.tasks (fun _ => 0), ())) fun z => z.2.1 = tlT c.tasks fun _ => -1 := by
  refine acd (fun x => 0 ≤ x.1 ∧ x.1 ≤ c.tasks ∧ x.2.1 = tlT c.tasks fun t => if t < x.1 then -1 else 0) (fun x => (c.tasks - x.1).toNat) (fun self x hx ih => ?_) _ _ ⟨Int.le_refl 0, h.1, ah1 (f := fun _ => (0 : Int)) (g := fun t => if t < 0 then -1 else 0) fun t h1 _ => (if_neg (show ¬ t < 0 by omega)).symm⟩ (by show (c.tasks - 0).toNat < _; omega)
  obtain ⟨i, l, ⟨⟩⟩ := x
  obtain ⟨h1, h2, h3⟩ := hx
  simp only at h1 h2 h3
  unfold aG2
  have e1 : wi (i + 1) = i + 1 := aaH (aao (by omega))
  refine aaK.ite (fun hlt => ?_) fun hge => .some_ ?_
  · have hlt : i < c.tasks := hlt
    refine .guard ⟨h1, by show i < (l.length : Int); rw [h3, ass]; omega⟩ fun _ => ?_
    show aaK (self (wi (i + 1), l.set i.toNat (-1), ())) _
    rw [e1]
    refine ih _ ⟨by show 0 ≤ i + 1; omega, by show i + 1 ≤ _; omega, ?_⟩ (by show (_ - (i + 1) : Int).toNat < (_ - i : Int).toNat; omega)
    show l.set i.toNat (-1) = tlT c.tasks fun t => if t < i + 1 then -1 else 0
    rw [h3, aw7 h1]
    refine ah1 fun t q1 q2 => ?_
    by_cases a : t = i
    · rw [if_pos a, if_pos (by omega)]
    · rw [if_neg a]
      by_cases b : t < i
      · rw [if_pos b, if_pos (by omega)]
      · rw [if_neg b, if_neg (by omega)]
  · have hge : ¬ i < c.tasks := hge
    show l = _
    rw [h3]
    exact ah1 fun t _ q2 => if_pos (by omega)
theorem atq {l : List Ev} {y : Ev} {t : Int} : ahU (l ++ [y]) t = if y.task = t ∧ (y.kind = 1 ∨ y.kind = 3) then y.level else ahU l t := by rw [aim]; rfl
theorem asR {l : List Ev} {y : Ev} {t : Int} : aiX (l ++ [y]) t = (aiX l t || decide (y.task = t ∧ (y.kind = 11 ∨ y.kind = 12))) := by
  rw [ajY]
  show (aiX l t || (_ || false)) = _
  rw [Bool.or_false]
theorem ax9 {c : Cfg} {h : List Ev} (ht : 0 ≤ c.tasks ∧ c.tasks ≤ 1000000) (hl : h.length ≤ 999999999) (hv : ∀ y ∈ h, 0 ≤ y.task ∧ y.task < c.tasks) :
    aaK (lpF (aC7 c h) 18446744073709551616 (0, tlT c.tasks (fun _ => false), tlT c.tasks (fun _ => -1), ())) fun z => ∃ i, z = .inl (i, tlT c.tasks (aiX h), tlT c.tasks (ahU h), ()) := by
  refine acd (fun x => 0 ≤ x.1 ∧ x.1 ≤ (h.length : Int) ∧ x.2.1 = tlT c.tasks (aiX (h.take x.1.toNat)) ∧ x.2.2.1 = tlT c.tasks (ahU (h.take x.1.toNat))) (fun x => ((h.length : Int) - x.1).toNat) (fun self x hx ih => ?_) _ _ ⟨Int.le_refl 0, by show (0 : Int) ≤ _; omega, rfl, rfl⟩ (by show ((h.length : Int) - 0).toNat < _; omega)
  obtain ⟨i, r, d, ⟨⟩⟩ := x
  obtain ⟨h1, h2, h3, h4⟩ := hx
  simp only at h1 h2 h3 h4
  have e1 : wi (i + 1) = i + 1 := aaH (aao (by omega))
  unfold aC7
  refine aaK.ite (fun hlt => ?_) fun hge => .some_ ?_
  · have hlt : i < (h.length : Int) := hlt
    have hy := aAQ ⟨h1, hlt⟩
    have hn := ast ⟨h1, hlt⟩
    have ym : 0 ≤ (aaS h i).task ∧ (aaS h i).task < c.tasks := by
      obtain ⟨hi, e⟩ := hy
      rw [e]; exact hv _ (List.getElem_mem _)
    generalize aaS h i = y at *
    have lr : (r.length : Int) = c.tasks := by rw [h3, ass]; omega
    have ld : (d.length : Int) = c.tasks := by rw [h4, ass]; omega
    have hd : ∀ z, (y.kind = 1 ∨ y.kind = 3) → z = d.set y.task.toNat y.level → z = tlT c.tasks (ahU (h.take (i + 1).toNat)) := fun z hk hz => by
      rw [hz, h4, hn, aw7 ym.1]
      refine ah1 fun t _ _ => ?_
      rw [atq]
      by_cases a : y.task = t
      · rw [if_pos a.symm, if_pos ⟨a, hk⟩]
      · rw [if_neg (fun k => a k.symm), if_neg (fun k => a k.1)]
    have hd0 : ¬ (y.kind = 1 ∨ y.kind = 3) → d = tlT c.tasks (ahU (h.take (i + 1).toNat)) := fun hk => by
      rw [h4, hn]
      refine ah1 fun t _ _ => ?_
      rw [atq, if_neg (fun k => hk k.2)]
    have hr : ∀ z, (y.kind = 11 ∨ y.kind = 12) → z = r.set y.task.toNat true → z = tlT c.tasks (aiX (h.take (i + 1).toNat)) := fun z hk hz => by
      rw [hz, h3, hn, aw7 ym.1]
      refine ah1 fun t _ _ => ?_
      rw [asR]
      by_cases a : y.task = t
      · rw [if_pos a.symm, decide_eq_true ⟨a, hk⟩, Bool.or_true]
      · rw [if_neg (fun k => a k.symm), decide_eq_false (fun k => a k.1), Bool.or_false]
    have hr0 : ¬ (y.kind = 11 ∨ y.kind = 12) → r = tlT c.tasks (aiX (h.take (i + 1).toNat)) := fun hk => by
      rw [h3, hn]
      refine ah1 fun t _ _ => ?_
      rw [asR, decide_eq_false (fun k => hk k.2), Bool.or_false]
    have nx : ∀ r' d', r' = tlT c.tasks (aiX (h.take (i + 1).toNat)) → d' = tlT c.tasks (ahU (h.take (i + 1).toNat)) → aaK (self (wi (i + 1), r', d', ())) fun z => ∃ i, z = .inl (i, tlT c.tasks (aiX h), tlT c.tasks (ahU h), ()) := fun r' d' a b => by
      rw [e1]
      exact ih _ ⟨by show 0 ≤ i + 1; omega, by show i + 1 ≤ _; omega, a, b⟩ (by show (_ - (i + 1) : Int).toNat < (_ - i : Int).toNat; omega)
    have gr : 0 ≤ y.task ∧ y.task < ((r.length : Nat) : Int) := by omega
    have gd : 0 ≤ y.task ∧ y.task < ((d.length : Nat) : Int) := by omega
    refine .guard ⟨h1, hlt⟩ fun _ => aaK.ite (fun k => absurd k (by omega)) fun _ => aaK.ite (fun k => absurd k (by omega)) fun _ => .guard ⟨h1, hlt⟩ fun _ => aaK.ite (fun k1 => aaK.ite (fun _ => .guard ⟨h1, hlt⟩ fun _ => .guard gd fun _ => nx _ _ (hr0 (by omega)) (hd _ (.inl k1) rfl)) fun k => absurd k1 k) fun k1 => ?_
    refine aaK.ite (fun k3 => .guard ⟨h1, hlt⟩ fun _ => .guard gd fun _ => nx _ _ (hr0 (by omega)) (hd _ (.inr k3) rfl)) fun k3 => ?_
    refine aaK.ite (fun k11 => aaK.ite (fun _ => .guard gr fun _ => nx _ _ (hr _ (.inl k11) rfl) (hd0 (by omega))) fun k => absurd k11 k) fun k11 => ?_
    exact aaK.ite (fun k12 => .guard gr fun _ => nx _ _ (hr _ (.inr k12) rfl) (hd0 (by omega))) fun k12 => nx _ _ (hr0 (by omega)) (hd0 (by omega))
  · have hge : ¬ i < (h.length : Int) := hge
    rw [List.take_of_length_le (by omega)] at h3 h4
    exact ⟨i, by rw [h3, h4]⟩
theorem ayE {c : Cfg} (h : DecOk c) : acX c = some (((aaI c).queues, ()), ()) := by
  have h1 := h.w
  have h4 := h.h
  have h5 := h.k
  unfold acX
  rw [aaH (x := 4 + c.heap) (aao (by omega)), aaH (x := 4 + c.heap + c.classes) (aao (by omega)), aaH (x := 2 * c.workers) (aao (by omega)), aaH (aao (by omega))]
  have e : 4 + c.heap + c.classes + 2 * c.workers = (aaI c).queues := by rw [alA]; omega
  rw [e]
theorem atY {c : Cfg} (h : DecOk c) {t : Int} (ht : TOk c t) : ada c t = some ((aa7 (aaI c) t, ()), ()) := by
  have h1 := h.w
  have h2 := h.l
  have h3 := h.q
  have h4 := h.h
  have h5 := h.k
  have h7 := h.t
  have hr := h.rg
  have hq := af3 h
  obtain ⟨t1, t2⟩ := ht
  have el : aa7 (aaI c) t = (aaI c).table + 1 + t * 5 := (aeb h (f := 1) (by omega)).trans (if_pos ⟨t1, t2⟩)
  unfold ada aey
  rw [ayE h, bnd, if_pos rfl, if_pos rfl, if_pos rfl, if_pos rfl]
  simp only
  rw [aaH (x := c.workers * c.levels) (aao (by omega)), aaH (x := 2 + c.deque) (aao (by omega)), aaH (x := c.workers * c.levels * (2 + c.deque)) (aao (by omega)), aaH (x := (aaI c).queues + _) (aao (by omega))]
  have e : (aaI c).queues + c.workers * c.levels * (2 + c.deque) = (aaI c).table := by omega
  rw [e]
  unfold aeh
  rw [if_neg (by omega), if_neg (by omega), bnd]
  simp only
  rw [aaH (x := t * 5) (aao (by omega)), aaH (x := (aaI c).table + t * 5) (aao (by omega)), if_neg (by omega), bnd, aaH (aao (by omega)), el]
  have e2 : (aaI c).table + t * 5 + 1 = (aaI c).table + 1 + t * 5 := by omega
  rw [e2]
theorem aAO {c : Cfg} {e : EnvP} (m : MI c e) (hn : (e.m.cells.length : Int) = abA c) {i : Int}
    (hd : ∀ t, TOk c t → 0 ≤ ahU e.evs t → ahU e.evs t ≤ Lv c e t ∧ (aiX e.evs t = false → Lv c e t = ahU e.evs t)) :
    aaK (lpF (aGG c e.m.cells (i, tlT c.tasks (aiX e.evs), tlT c.tasks (ahU e.evs), ())) 18446744073709551616 (0, ())) fun z => ∃ u, z = .inl u := by
  have h := m.d
  have ht := h.t
  have hq := af3 h
  have hh := h.h
  have hc : abA c = (aaI c).table + 5 * c.tasks := rfl
  refine acd (fun x => 0 ≤ x.1 ∧ x.1 ≤ c.tasks) (fun x => (c.tasks - x.1).toNat) (fun self x hx ih => ?_) _ _ ⟨Int.le_refl 0, by show (0 : Int) ≤ _; omega⟩ (by show (c.tasks - 0).toNat < _; omega)
  obtain ⟨t, ⟨⟩⟩ := x
  obtain ⟨h1, h2⟩ := hx
  simp only at h1 h2
  have e1 : wi (t + 1) = t + 1 := aaH (aao (by omega))
  unfold aGG
  refine aaK.ite (fun hlt => ?_) fun hge => .some_ ⟨_, rfl⟩
  have hlt : t < c.tasks := hlt
  have nx : aaK (self (wi (t + 1), ())) fun z => ∃ u, z = .inl u := by
    rw [e1]
    exact ih _ ⟨by show 0 ≤ t + 1; omega, by show t + 1 ≤ _; omega⟩ (by show (_ - (t + 1) : Int).toNat < (_ - t : Int).toNat; omega)
  have gd : 0 ≤ t ∧ t < (((tlT c.tasks (ahU e.evs)).length : Nat) : Int) := by rw [ass]; omega
  have gr : 0 ≤ t ∧ t < (((tlT c.tasks (aiX e.evs)).length : Nat) : Int) := by rw [ass]; omega
  have ed : afP (tlT c.tasks (ahU e.evs)) t = ahU e.evs t := aEn ⟨h1, hlt⟩
  have er : awO (tlT c.tasks (aiX e.evs)) t = aiX e.evs t := aEm ⟨h1, hlt⟩
  have el : aa7 (aaI c) t = (aaI c).table + 1 + t * 5 := (aeb h (f := 1) (by omega)).trans (if_pos ⟨h1, hlt⟩)
  have gl : 0 ≤ aa7 (aaI c) t ∧ aa7 (aaI c) t < ((e.m.cells.length : Nat) : Int) := by omega
  have ea : afQ e.m.cells (aa7 (aaI c) t) = Lv c e t := by
    show _ = e.m.gt _
    unfold MemV.gt; rw [if_pos (by omega)]
  have k6 : ckC c (aa7 (aaI c) t) = 6 := (aop h (t := t) (f := 1) (by omega)).trans (by rw [if_pos ⟨h1, hlt⟩, if_pos rfl])
  have ew : wi (Lv c e t) = Lv c e t := by
    have a : 0 ≤ Lv c e t := (m.ok (aa7 (aaI c) t)).p
    have b : Lv c e t < c.levels := (m.ok (aa7 (aaI c) t)).l k6
    have := h.l
    exact aaH (aao (by omega))
  refine .guard gd fun _ => aaK.ite (fun _ => nx) fun hn0 => ?_
  have hn0 : ¬ afP (tlT c.tasks (ahU e.evs)) t < 0 := hn0
  rw [ed] at hn0
  obtain ⟨d1, d2⟩ := hd t ⟨h1, hlt⟩ (by omega)
  rw [atY h ⟨h1, hlt⟩, bnd]
  refine .guard gl fun _ => .guard gd fun _ => aaK.ite (fun k => ?_) fun _ => .guard gr fun _ => aaK.ite (fun k => .guard gd fun _ => aaK.ite (fun k2 => ?_) fun _ => nx) fun _ => nx
  · exfalso
    have k : wi (afQ e.m.cells (aa7 (aaI c) t)) < afP (tlT c.tasks (ahU e.evs)) t := k
    rw [ea, ew, ed] at k
    omega
  · exfalso
    have k : (!(awO (tlT c.tasks (aiX e.evs)) t)) = true := k
    have k2 : wi (afQ e.m.cells (aa7 (aaI c) t)) ≠ afP (tlT c.tasks (ahU e.evs)) t := k2
    rw [er] at k
    rw [ea, ew, ed] at k2
    exact k2 (d2 (by revert k; cases aiX e.evs t <;> simp))
theorem aur : ∀ (n : Nat) (L : List Int), L.Nodup → (∀ x ∈ L, 0 ≤ x ∧ x < (n : Int)) → L.length ≤ n
  | 0, L, _, h => by
    cases L with
    | nil => exact Nat.le_refl 0
    | cons x l => have := h x (List.mem_cons_self ..); omega
  | n + 1, L, hd, h => by
    by_cases hm : (n : Int) ∈ L
    · have h1 := aur n (L.erase (n : Int)) (hd.erase _) fun x hx => by
        have h2 := (List.Nodup.mem_erase_iff hd).1 hx
        have h3 := h x h2.2
        have h4 := h2.1
        omega
      have h5 := List.length_erase_of_mem hm
      omega
    · have := aur n L hd fun x hx => by
        have h3 := h x hx
        have h4 : x ≠ (n : Int) := fun k => hm (k ▸ hx)
        omega
      omega
noncomputable def aHc (h : List Ev) (i : Int) (self : Bool × Int × Unit → Option (Bool × Int × Unit)) (x : Bool × Int × Unit) : Option (Bool × Int × Unit) :=
 if x.2.1 < i then
  if x.1 = true then
   if 0 ≤ x.2.1 ∧ x.2.1 < ((h.length : Nat) : Int) then
    if ((aaS h x.2.1).kind) ≠ 1 then
     if 0 ≤ x.2.1 ∧ x.2.1 < ((h.length : Nat) : Int) then
      if ((aaS h x.2.1).kind) ≠ 3 then
       self (true, wi (x.2.1 + 1), ())
      else
      if 0 ≤ x.2.1 ∧ x.2.1 < ((h.length : Nat) : Int) then
       if 0 ≤ i ∧ i < ((h.length : Nat) : Int) then
        self (decide (((aaS h x.2.1).task) ≠ ((aaS h i).task)), wi (x.2.1 + 1), ())
       else none
      else none
     else none
    else
    if 0 ≤ x.2.1 ∧ x.2.1 < ((h.length : Nat) : Int) then
     if 0 ≤ i ∧ i < ((h.length : Nat) : Int) then
      self (decide (((aaS h x.2.1).task) ≠ ((aaS h i).task)), wi (x.2.1 + 1), ())
     else none
    else none
   else none
  else
  self (false, wi (x.2.1 + 1), ())
 else
 some (x.1, x.2.1, ())
def aDT (h : List Ev) (n : Int) (t : Int) : Prop := ∀ j, 0 ≤ j → j < n → ((aaS h j).kind = 1 ∨ (aaS h j).kind = 3) → (aaS h j).task ≠ t
theorem avG {h : List Ev} {i : Int} (F : (Bool × Int × Unit → Option (Bool × Int × Unit)) → Bool × Int × Unit → Option (Bool × Int × Unit)) (hF : ∀ self x, F self x = aHc h i self x) (hi : 0 ≤ i ∧ i < (h.length : Int)) (hl : h.length ≤ 999999999) :
    aaK (lpF F 18446744073709551616 (true, 0, ())) fun z => z.1 = true → aDT h i (aaS h i).task := by
  refine acd (fun x => 0 ≤ x.2.1 ∧ x.2.1 ≤ i ∧ (x.1 = true → aDT h x.2.1 (aaS h i).task)) (fun x => (i - x.2.1).toNat) (fun self x hx ih => ?_) _ _ ⟨Int.le_refl 0, hi.1, fun _ j a b => absurd b (by show ¬ j < 0; omega)⟩ (by show (i - 0).toNat < _; omega)
  obtain ⟨b, j, ⟨⟩⟩ := x
  obtain ⟨h1, h2, h3⟩ := hx
  simp only at h1 h2 h3
  rw [hF]
  have e1 : wi (j + 1) = j + 1 := aaH (aao (by omega))
  unfold aHc
  refine aaK.ite (fun hlt => ?_) fun hge => .some_ ?_
  · have hlt : j < i := hlt
    have gj : 0 ≤ j ∧ j < ((h.length : Nat) : Int) := by omega
    have nx : ∀ b2 : Bool, (b2 = true → b = true ∧ (((aaS h j).kind = 1 ∨ (aaS h j).kind = 3) → (aaS h j).task ≠ (aaS h i).task)) → aaK (self (b2, wi (j + 1), ())) fun z => z.1 = true → aDT h i (aaS h i).task := fun b2 hb => by
      rw [e1]
      refine ih _ ⟨by show 0 ≤ j + 1; omega, by show j + 1 ≤ i; omega, fun k u a c => ?_⟩ (by show (i - (j + 1)).toNat < (i - j).toNat; omega)
      obtain ⟨q1, q2⟩ := hb k
      have c : u < j + 1 := c
      by_cases hu : u = j
      · rw [hu]; exact q2
      · exact h3 q1 u a (by omega)
    refine aaK.ite (fun hb => ?_) fun _ => nx _ fun k => (by cases k)
    refine .guard gj fun _ => aaK.ite (fun k1 => .guard gj fun _ => aaK.ite (fun k3 => nx _ fun _ => ⟨hb, fun k => ?_⟩) fun _ => .guard gj fun _ => .guard hi fun _ => nx _ fun k => ⟨hb, fun _ => of_decide_eq_true k⟩) fun _ => .guard gj fun _ => .guard hi fun _ => nx _ fun k => ⟨hb, fun _ => of_decide_eq_true k⟩
    exact absurd k (by have k1 : (aaS h j).kind ≠ 1 := k1; have k3 : (aaS h j).kind ≠ 3 := k3; omega)
  · have hge : ¬ j < i := hge
    intro k
    have : j = i := by omega
    rw [← this]
    rw [← this] at h3
    exact h3 k
theorem awg {c : Cfg} {h : List Ev} (ht : 0 ≤ c.tasks ∧ c.tasks ≤ 1000000) (hl : h.length ≤ 999999999) (hv : ∀ y ∈ h, 0 ≤ y.task ∧ y.task < c.tasks) : aaK (ac9 h) fun r => r.1.1 ≤ c.tasks := by
  have hb : ∀ L : List Int, L.Nodup → (∀ t ∈ L, 0 ≤ t ∧ t < c.tasks) → (L.length : Int) ≤ c.tasks := fun L a b => by
    have := aur c.tasks.toNat L a fun x hx => by have := b x hx; omega
    omega
  unfold ac9
  refine aaK.bind (P := fun z => z.1 ≤ c.tasks) (acd (fun x => 0 ≤ x.2.1 ∧ x.2.1 ≤ (h.length : Int) ∧ ∃ L : List Int, L.Nodup ∧ (L.length : Int) = x.1 ∧ (∀ t ∈ L, 0 ≤ t ∧ t < c.tasks) ∧ ∀ t ∈ L, ¬ aDT h x.2.1 t) (fun x => ((h.length : Int) - x.2.1).toNat) (fun self x hx ih => ?_) _ _ ⟨Int.le_refl 0, by show (0 : Int) ≤ _; omega, [], .nil, rfl, fun t k => (by cases k), fun t k => (by cases k)⟩ (by show ((h.length : Int) - 0).toNat < _; omega)) fun z hz => .some_ hz
  obtain ⟨n, i, ⟨⟩⟩ := x
  obtain ⟨h1, h2, L, l1, l2, l3, l4⟩ := hx
  simp only at h1 h2 l2 l4
  have hL := hb L l1 l3
  refine aaK.ite (fun hlt => ?_) fun hge => .some_ (by show n ≤ _; omega)
  have hlt : i < (h.length : Int) := hlt
  have gi : 0 ≤ i ∧ i < ((h.length : Nat) : Int) := ⟨h1, hlt⟩
  have e1 : wi (i + 1) = i + 1 := aaH (aao (by omega))
  have e2 : wi (n + 1) = n + 1 := aaH (aao (by omega))
  have up : ∀ t, aDT h (i + 1) t → aDT h i t := fun t k j a b => k j a (by omega)
  have skip : aaK (self (n, wi (i + 1), ())) fun z => z.1 ≤ c.tasks := by
    rw [e1]
    exact ih _ ⟨by show 0 ≤ i + 1; omega, by show i + 1 ≤ _; omega, L, l1, l2, l3, fun t a k => l4 t a (up t k)⟩ (by show (_ - (i + 1) : Int).toNat < (_ - i : Int).toNat; omega)
  have ym : 0 ≤ (aaS h i).task ∧ (aaS h i).task < c.tasks := by
    obtain ⟨hi, e⟩ := aAQ gi
    rw [e]; exact hv _ (List.getElem_mem _)
  have cnt : ((aaS h i).kind = 1 ∨ (aaS h i).kind = 3) → ∀ z : Bool × Int × Unit, (z.1 = true → aDT h i (aaS h i).task) → aaK (if z.1 = true then self (wi (n + 1), wi (i + 1), ()) else self (n, wi (i + 1), ())) fun z => z.1 ≤ c.tasks := fun hk z hz => by
    refine aaK.ite (fun k => ?_) fun _ => skip
    rw [e1, e2]
    have nw := hz k
    have nm : (aaS h i).task ∉ L := fun hm => l4 _ hm nw
    refine ih _ ⟨by show 0 ≤ i + 1; omega, by show i + 1 ≤ _; omega, (aaS h i).task :: L, List.nodup_cons.2 ⟨nm, l1⟩, by show (((aaS h i).task :: L).length : Int) = n + 1; rw [List.length_cons]; omega, fun t a => ?_, fun t a k => ?_⟩ (by show (_ - (i + 1) : Int).toNat < (_ - i : Int).toNat; omega)
    · rcases List.mem_cons.1 a with rfl | a
      · exact ym
      · exact l3 t a
    · rcases List.mem_cons.1 a with rfl | a
      · exact k i h1 (by show i < i + 1; omega) hk rfl
      · exact l4 t a (up t k)
  refine .guard gi fun _ => aaK.ite (fun k1 => .guard gi fun _ => aaK.ite (fun _ => skip) fun k3 => ?_) fun k1 => ?_
  · have k3 : ¬ (aaS h i).kind ≠ 3 := k3
    exact (avG _ (fun _ _ => rfl) gi hl).bind fun z hz => cnt (.inr (by omega)) z hz
  · have k1 : ¬ (aaS h i).kind ≠ 1 := k1
    exact (avG _ (fun _ _ => rfl) gi hl).bind fun z hz => cnt (.inl (by omega)) z hz
theorem ale {c : Cfg} {e : EnvP} (m : MI c e) (hn : (e.m.cells.length : Int) = abA c) (hl : e.evs.length ≤ 999999999) (hv : ∀ y ∈ e.evs, 0 ≤ y.task ∧ y.task < c.tasks)
    (hd : ∀ t, TOk c t → 0 ≤ ahU e.evs t → ahU e.evs t ≤ Lv c e t ∧ (aiX e.evs t = false → Lv c e t = ahU e.evs t)) : aaK (awh c e.evs e.m.cells) fun r => r.1.1 = true := by
  have ht := m.d.t
  have ht : 0 ≤ c.tasks ∧ c.tasks ≤ 1000000 := by omega
  unfold awh
  rw [aFe ht, bnd]
  refine (aA2 ht).bind fun d h1 => ?_
  rw [h1]
  refine (ax9 ht hl hv).bind fun p h2 => ?_
  obtain ⟨i, rfl⟩ := h2
  refine (aAO m hn hd).bind fun q h3 => ?_
  obtain ⟨u, rfl⟩ := h3
  refine (awg ht hl hv).bind fun r h4 => .guard rfl fun _ => .some_ (decide_eq_true h4)
theorem art {g : List Int} {evs : List Ev} (h1 : g.length = evs.length) (h2 : evs.length ≤ 999999999) : aaK (akZ (List.zipWith stF g evs)) fun r => r.1.1 = evs := by
  have hl : (List.zipWith stF g evs).length = evs.length := by rw [List.length_zipWith, h1]; omega
  unfold akZ
  refine aaK.bind (P := fun z => z.1 = evs) (acd (fun x => 0 ≤ x.2.1 ∧ x.2.1 ≤ (evs.length : Int) ∧ x.1 = evs.take x.2.1.toNat) (fun x => ((evs.length : Int) - x.2.1).toNat) (fun self x hx ih => ?_) _ _ ⟨Int.le_refl 0, by show (0 : Int) ≤ _; omega, rfl⟩ (by show ((evs.length : Int) - 0).toNat < _; omega)) fun z hz => .some_ hz
  obtain ⟨l, i, ⟨⟩⟩ := x
  obtain ⟨q1, q2, q3⟩ := hx
  simp only at q1 q2 q3
  have e1 : wi (i + 1) = i + 1 := aaH (aao (by omega))
  refine aaK.ite (fun hlt => ?_) fun hge => .some_ ?_
  · have hlt : i < (((List.zipWith stF g evs).length : Nat) : Int) := hlt
    have hll : l.length ≤ evs.length := by rw [q3, List.length_take]; omega
    have hi : i.toNat < (List.zipWith stF g evs).length := by omega
    refine .guard ⟨q1, hlt⟩ fun _ => .guard (by simp only [List.length_singleton]; omega) fun _ => ?_
    show aaK (self (l ++ [(awX (List.zipWith stF g evs) i).ev], wi (i + 1), ())) _
    rw [e1]
    refine ih _ ⟨by show 0 ≤ i + 1; omega, by show i + 1 ≤ _; omega, ?_⟩ (by show (_ - (i + 1) : Int).toNat < (_ - i : Int).toNat; omega)
    show l ++ [_] = _
    have e6 : (awX (List.zipWith stF g evs) i).ev = aaS evs i := by
      have := aep (α := St) (d := (dfR 6 : TR 6)) (xs := List.zipWith stF g evs) (i := i) ⟨q1, hlt⟩
      rw [List.getElem?_eq_getElem hi, List.getElem_zipWith] at this
      obtain ⟨_, e⟩ := aAQ (l := evs) (i := i) ⟨q1, by omega⟩
      rw [e]
      exact congrArg St.ev (Option.some.inj this).symm
    rw [e6, q3, ast ⟨q1, by omega⟩]
  · have hge : ¬ i < (((List.zipWith stF g evs).length : Nat) : Int) := hge
    show l = _
    rw [q3, List.take_of_length_le (by omega)]
theorem aFx {c : Cfg} {I : Nat → EnvP → List (WorkerV MV) → ClientV MV → Prop} (hI : EngI c I) {N : Nat} {env : EnvP} {w0 : WorkerV MV} {cl : ClientV MV} {eng : apY} {i : Int} {l : List EntV} (h : I N env [w0] cl) (hN : N ≤ 100000) :
    aaK (aoD l (i, env, w0, cl, eng, ()) ((env.m.count, ()), (env.m, ()))) fun z => I (N + 1) z.1 [z.2.1] z.2.2.1 ∧ z.2.2.2.1 = eng ∧ ∃ l, z.1.evs = env.evs ++ l := by
  unfold aoD
  refine aaK.ite (fun hk => ?_) fun hk => aaK.ite (fun _ => ?_) fun _ => aaK.ite (fun _ => ?_) fun _ => ?_
  · refine (alR (n := 2) (by decide) hk).bind fun o ho => ?_
    refine aaK.ite (fun _ => ?_) fun n1 => aaK.ite (fun _ => ?_) fun n0 => ?_
    · exact (hI.c h hN).bind fun o ho => .some_ ⟨ho.1, rfl, ho.2⟩
    · exact (hI.w h hN (j := 0) rfl).bind fun o ho => .some_ ⟨ho.1, rfl, ho.2⟩
    · exfalso; have m0 : ¬ o.1.1 = ((0 : Nat) : Int) := n0; have m1 : ¬ o.1.1 = ((1 : Nat) : Int) := n1; omega
  · exact ⟨_, rfl, hI.n (hI.k h), rfl, [], by simp⟩
  · exact ⟨_, rfl, hI.n (hI.k h), rfl, [], by simp⟩
  · exact ⟨_, rfl, hI.n h, rfl, [], by simp⟩
theorem aFt {c : Cfg} {I : Nat → EnvP → List (WorkerV MV) → ClientV MV → Prop} (hI : EngI c I) {N : Nat} {env : EnvP} {w0 : WorkerV MV} {cl : ClientV MV} {eng : apY} {l : List EntV} (h : I N env [w0] cl) (hg : EG N env eng) (hN : N + l.length ≤ 100000) :
    aaK (lpF (aoH l) 18446744073709551616 (0, env, w0, cl, eng, ())) fun z => I (N + l.length) z.2.1 [z.2.2.1] z.2.2.2.1 ∧ EG (N + l.length) z.2.1 z.2.2.2.2.1 ∧ ∃ m, z.2.1.evs = env.evs ++ m := by
  refine acd (fun x => 0 ≤ x.1 ∧ x.1 ≤ (l.length : Int) ∧ I (N + x.1.toNat) x.2.1 [x.2.2.1] x.2.2.2.1 ∧ EG (N + x.1.toNat) x.2.1 x.2.2.2.2.1 ∧ ∃ m, x.2.1.evs = env.evs ++ m) (fun x => (l.length : Int).toNat - x.1.toNat) (fun self x hx ih => ?_) _ _ ?init (by show (l.length : Int).toNat - 0 < _; omega)
  case init => exact ⟨Int.le_refl 0, by show (0 : Int) ≤ _; omega, h, hg, [], by simp⟩
  obtain ⟨i, en2, w0, cl, eng, ⟨⟩⟩ := x
  obtain ⟨q1, q2, h, hg, m0, hm⟩ := hx
  simp only at q1 q2 h hg hm
  unfold aoH
  refine aaK.ite (fun hlt => ?_) fun hge => .some_ ?iend
  case iend =>
    have hge : ¬ i < (l.length : Int) := hge
    have : i.toNat = l.length := by omega
    rw [this] at h hg
    exact ⟨h, hg, m0, hm⟩
  have hlt : i < (l.length : Int) := hlt
  refine aaK.guard ⟨q1, hlt⟩ fun _ => ?_
  rw [amc, bnd]
  refine (aFx hI (i := i) (l := l) (eng := eng) h (by omega)).bind fun z hz => ?_
  obtain ⟨ze, z0, zc, zg, ⟨⟩⟩ := z
  obtain ⟨a3, ag, m1, hm1⟩ := hz
  simp only at a3 ag hm1
  subst ag
  have hev := hI.ev a3
  refine auZ hg ⟨m1, hm1⟩ (by show ze.evs.length ≤ _; omega) (by omega) fun eng2 he => ?_
  have ei : wi (i + 1) = i + 1 := aaH (aao (by omega))
  have en : N + i.toNat + 1 = N + (i + 1).toNat := by omega
  rw [en] at a3 he
  show aaK (self (wi (i + 1), ze, z0, zc, _, ())) _
  rw [ei]
  exact ih _ ⟨by show 0 ≤ i + 1; omega, by show i + 1 ≤ _; omega, a3, he, m0 ++ m1, by show ze.evs = _; rw [hm1, hm, List.append_assoc]⟩ (by show _ - (i + 1).toNat < _ - i.toNat; omega)
theorem aFw {c : Cfg} {I : Nat → EnvP → List (WorkerV MV) → ClientV MV → Prop} (hI : EngI c I) {N : Nat} {env : EnvP} {w0 w1 : WorkerV MV} {cl : ClientV MV} {eng : apY} {i : Int} {l : List EntV} (h : I N env [w0, w1] cl) (hN : N ≤ 100000) :
    aaK (aoC l (i, env, w0, w1, cl, eng, ()) ((env.m.count, ()), (env.m, ()))) fun z => I (N + 1) z.1 [z.2.1, z.2.2.1] z.2.2.2.1 ∧ z.2.2.2.2.1 = eng ∧ ∃ l, z.1.evs = env.evs ++ l := by
  unfold aoC
  refine aaK.ite (fun hk => ?_) fun hk => aaK.ite (fun _ => ?_) fun _ => aaK.ite (fun _ => ?_) fun _ => ?_
  · refine (alR (n := 3) (by decide) hk).bind fun o ho => ?_
    refine aaK.ite (fun _ => ?_) fun n2 => aaK.ite (fun _ => ?_) fun n1 => aaK.ite (fun _ => ?_) fun n0 => ?_
    · exact (hI.c h hN).bind fun o ho => .some_ ⟨ho.1, rfl, ho.2⟩
    · exact (hI.w h hN (j := 1) rfl).bind fun o ho => .some_ ⟨ho.1, rfl, ho.2⟩
    · exact (hI.w h hN (j := 0) rfl).bind fun o ho => .some_ ⟨ho.1, rfl, ho.2⟩
    · exfalso; have m0 : ¬ o.1.1 = ((0 : Nat) : Int) := n0; have m1 : ¬ o.1.1 = ((1 : Nat) : Int) := n1; have m2 : ¬ o.1.1 = ((2 : Nat) : Int) := n2; omega
  · exact ⟨_, rfl, hI.n (hI.k h), rfl, [], by simp⟩
  · exact ⟨_, rfl, hI.n (hI.k h), rfl, [], by simp⟩
  · exact ⟨_, rfl, hI.n h, rfl, [], by simp⟩
theorem aFs {c : Cfg} {I : Nat → EnvP → List (WorkerV MV) → ClientV MV → Prop} (hI : EngI c I) {N : Nat} {env : EnvP} {w0 w1 : WorkerV MV} {cl : ClientV MV} {eng : apY} {l : List EntV} (h : I N env [w0, w1] cl) (hg : EG N env eng) (hN : N + l.length ≤ 100000) :
    aaK (lpF (aoG l) 18446744073709551616 (0, env, w0, w1, cl, eng, ())) fun z => I (N + l.length) z.2.1 [z.2.2.1, z.2.2.2.1] z.2.2.2.2.1 ∧ EG (N + l.length) z.2.1 z.2.2.2.2.2.1 ∧ ∃ m, z.2.1.evs = env.evs ++ m := by
  refine acd (fun x => 0 ≤ x.1 ∧ x.1 ≤ (l.length : Int) ∧ I (N + x.1.toNat) x.2.1 [x.2.2.1, x.2.2.2.1] x.2.2.2.2.1 ∧ EG (N + x.1.toNat) x.2.1 x.2.2.2.2.2.1 ∧ ∃ m, x.2.1.evs = env.evs ++ m) (fun x => (l.length : Int).toNat - x.1.toNat) (fun self x hx ih => ?_) _ _ ?init (by show (l.length : Int).toNat - 0 < _; omega)
  case init => exact ⟨Int.le_refl 0, by show (0 : Int) ≤ _; omega, h, hg, [], by simp⟩
  obtain ⟨i, en2, w0, w1, cl, eng, ⟨⟩⟩ := x
  obtain ⟨q1, q2, h, hg, m0, hm⟩ := hx
  simp only at q1 q2 h hg hm
  unfold aoG
  refine aaK.ite (fun hlt => ?_) fun hge => .some_ ?iend
  case iend =>
    have hge : ¬ i < (l.length : Int) := hge
    have : i.toNat = l.length := by omega
    rw [this] at h hg
    exact ⟨h, hg, m0, hm⟩
  have hlt : i < (l.length : Int) := hlt
  refine aaK.guard ⟨q1, hlt⟩ fun _ => ?_
  rw [amc, bnd]
  refine (aFw hI (i := i) (l := l) (eng := eng) h (by omega)).bind fun z hz => ?_
  obtain ⟨ze, z0, z1, zc, zg, ⟨⟩⟩ := z
  obtain ⟨a3, ag, m1, hm1⟩ := hz
  simp only at a3 ag hm1
  subst ag
  have hev := hI.ev a3
  refine auZ hg ⟨m1, hm1⟩ (by show ze.evs.length ≤ _; omega) (by omega) fun eng2 he => ?_
  have ei : wi (i + 1) = i + 1 := aaH (aao (by omega))
  have en : N + i.toNat + 1 = N + (i + 1).toNat := by omega
  rw [en] at a3 he
  show aaK (self (wi (i + 1), ze, z0, z1, zc, _, ())) _
  rw [ei]
  exact ih _ ⟨by show 0 ≤ i + 1; omega, by show i + 1 ≤ _; omega, a3, he, m0 ++ m1, by show ze.evs = _; rw [hm1, hm, List.append_assoc]⟩ (by show _ - (i + 1).toNat < _ - i.toNat; omega)
theorem aFv {c : Cfg} {I : Nat → EnvP → List (WorkerV MV) → ClientV MV → Prop} (hI : EngI c I) {N : Nat} {env : EnvP} {w0 w1 w2 : WorkerV MV} {cl : ClientV MV} {eng : apY} {i : Int} {l : List EntV} (h : I N env [w0, w1, w2] cl) (hN : N ≤ 100000) :
    aaK (aoB l (i, env, w0, w1, w2, cl, eng, ()) ((env.m.count, ()), (env.m, ()))) fun z => I (N + 1) z.1 [z.2.1, z.2.2.1, z.2.2.2.1] z.2.2.2.2.1 ∧ z.2.2.2.2.2.1 = eng ∧ ∃ l, z.1.evs = env.evs ++ l := by
  unfold aoB
  refine aaK.ite (fun hk => ?_) fun hk => aaK.ite (fun _ => ?_) fun _ => aaK.ite (fun _ => ?_) fun _ => ?_
  · refine (alR (n := 4) (by decide) hk).bind fun o ho => ?_
    refine aaK.ite (fun _ => ?_) fun n3 => aaK.ite (fun _ => ?_) fun n2 => aaK.ite (fun _ => ?_) fun n1 => aaK.ite (fun _ => ?_) fun n0 => ?_
    · exact (hI.c h hN).bind fun o ho => .some_ ⟨ho.1, rfl, ho.2⟩
    · exact (hI.w h hN (j := 2) rfl).bind fun o ho => .some_ ⟨ho.1, rfl, ho.2⟩
    · exact (hI.w h hN (j := 1) rfl).bind fun o ho => .some_ ⟨ho.1, rfl, ho.2⟩
    · exact (hI.w h hN (j := 0) rfl).bind fun o ho => .some_ ⟨ho.1, rfl, ho.2⟩
    · exfalso; have m0 : ¬ o.1.1 = ((0 : Nat) : Int) := n0; have m1 : ¬ o.1.1 = ((1 : Nat) : Int) := n1; have m2 : ¬ o.1.1 = ((2 : Nat) : Int) := n2; have m3 : ¬ o.1.1 = ((3 : Nat) : Int) := n3; omega
  · exact ⟨_, rfl, hI.n (hI.k h), rfl, [], by simp⟩
  · exact ⟨_, rfl, hI.n (hI.k h), rfl, [], by simp⟩
  · exact ⟨_, rfl, hI.n h, rfl, [], by simp⟩
theorem aFr {c : Cfg} {I : Nat → EnvP → List (WorkerV MV) → ClientV MV → Prop} (hI : EngI c I) {N : Nat} {env : EnvP} {w0 w1 w2 : WorkerV MV} {cl : ClientV MV} {eng : apY} {l : List EntV} (h : I N env [w0, w1, w2] cl) (hg : EG N env eng) (hN : N + l.length ≤ 100000) :
    aaK (lpF (aoF l) 18446744073709551616 (0, env, w0, w1, w2, cl, eng, ())) fun z => I (N + l.length) z.2.1 [z.2.2.1, z.2.2.2.1, z.2.2.2.2.1] z.2.2.2.2.2.1 ∧ EG (N + l.length) z.2.1 z.2.2.2.2.2.2.1 ∧ ∃ m, z.2.1.evs = env.evs ++ m := by
  refine acd (fun x => 0 ≤ x.1 ∧ x.1 ≤ (l.length : Int) ∧ I (N + x.1.toNat) x.2.1 [x.2.2.1, x.2.2.2.1, x.2.2.2.2.1] x.2.2.2.2.2.1 ∧ EG (N + x.1.toNat) x.2.1 x.2.2.2.2.2.2.1 ∧ ∃ m, x.2.1.evs = env.evs ++ m) (fun x => (l.length : Int).toNat - x.1.toNat) (fun self x hx ih => ?_) _ _ ?init (by show (l.length : Int).toNat - 0 < _; omega)
  case init => exact ⟨Int.le_refl 0, by show (0 : Int) ≤ _; omega, h, hg, [], by simp⟩
  obtain ⟨i, en2, w0, w1, w2, cl, eng, ⟨⟩⟩ := x
  obtain ⟨q1, q2, h, hg, m0, hm⟩ := hx
  simp only at q1 q2 h hg hm
  unfold aoF
  refine aaK.ite (fun hlt => ?_) fun hge => .some_ ?iend
  case iend =>
    have hge : ¬ i < (l.length : Int) := hge
    have : i.toNat = l.length := by omega
    rw [this] at h hg
    exact ⟨h, hg, m0, hm⟩
  have hlt : i < (l.length : Int) := hlt
  refine aaK.guard ⟨q1, hlt⟩ fun _ => ?_
  rw [amc, bnd]
  refine (aFv hI (i := i) (l := l) (eng := eng) h (by omega)).bind fun z hz => ?_
  obtain ⟨ze, z0, z1, z2, zc, zg, ⟨⟩⟩ := z
  obtain ⟨a3, ag, m1, hm1⟩ := hz
  simp only at a3 ag hm1
  subst ag
  have hev := hI.ev a3
  refine auZ hg ⟨m1, hm1⟩ (by show ze.evs.length ≤ _; omega) (by omega) fun eng2 he => ?_
  have ei : wi (i + 1) = i + 1 := aaH (aao (by omega))
  have en : N + i.toNat + 1 = N + (i + 1).toNat := by omega
  rw [en] at a3 he
  show aaK (self (wi (i + 1), ze, z0, z1, z2, zc, _, ())) _
  rw [ei]
  exact ih _ ⟨by show 0 ≤ i + 1; omega, by show i + 1 ≤ _; omega, a3, he, m0 ++ m1, by show ze.evs = _; rw [hm1, hm, List.append_assoc]⟩ (by show _ - (i + 1).toNat < _ - i.toNat; omega)
theorem aFu {c : Cfg} {I : Nat → EnvP → List (WorkerV MV) → ClientV MV → Prop} (hI : EngI c I) {N : Nat} {env : EnvP} {w0 w1 w2 w3 : WorkerV MV} {cl : ClientV MV} {eng : apY} {i : Int} {l : List EntV} (h : I N env [w0, w1, w2, w3] cl) (hN : N ≤ 100000) :
    aaK (aoA l (i, env, w0, w1, w2, w3, cl, eng, ()) ((env.m.count, ()), (env.m, ()))) fun z => I (N + 1) z.1 [z.2.1, z.2.2.1, z.2.2.2.1, z.2.2.2.2.1] z.2.2.2.2.2.1 ∧ z.2.2.2.2.2.2.1 = eng ∧ ∃ l, z.1.evs = env.evs ++ l := by
  unfold aoA
  refine aaK.ite (fun hk => ?_) fun hk => aaK.ite (fun _ => ?_) fun _ => aaK.ite (fun _ => ?_) fun _ => ?_
  · refine (alR (n := 5) (by decide) hk).bind fun o ho => ?_
    refine aaK.ite (fun _ => ?_) fun n4 => aaK.ite (fun _ => ?_) fun n3 => aaK.ite (fun _ => ?_) fun n2 => aaK.ite (fun _ => ?_) fun n1 => aaK.ite (fun _ => ?_) fun n0 => ?_
    · exact (hI.c h hN).bind fun o ho => .some_ ⟨ho.1, rfl, ho.2⟩
    · exact (hI.w h hN (j := 3) rfl).bind fun o ho => .some_ ⟨ho.1, rfl, ho.2⟩
    · exact (hI.w h hN (j := 2) rfl).bind fun o ho => .some_ ⟨ho.1, rfl, ho.2⟩
    · exact (hI.w h hN (j := 1) rfl).bind fun o ho => .some_ ⟨ho.1, rfl, ho.2⟩
    · exact (hI.w h hN (j := 0) rfl).bind fun o ho => .some_ ⟨ho.1, rfl, ho.2⟩
    · exfalso; have m0 : ¬ o.1.1 = ((0 : Nat) : Int) := n0; have m1 : ¬ o.1.1 = ((1 : Nat) : Int) := n1; have m2 : ¬ o.1.1 = ((2 : Nat) : Int) := n2; have m3 : ¬ o.1.1 = ((3 : Nat) : Int) := n3; have m4 : ¬ o.1.1 = ((4 : Nat) : Int) := n4; omega
  · exact ⟨_, rfl, hI.n (hI.k h), rfl, [], by simp⟩
  · exact ⟨_, rfl, hI.n (hI.k h), rfl, [], by simp⟩
  · exact ⟨_, rfl, hI.n h, rfl, [], by simp⟩
theorem aFq {c : Cfg} {I : Nat → EnvP → List (WorkerV MV) → ClientV MV → Prop} (hI : EngI c I) {N : Nat} {env : EnvP} {w0 w1 w2 w3 : WorkerV MV} {cl : ClientV MV} {eng : apY} {l : List EntV} (h : I N env [w0, w1, w2, w3] cl) (hg : EG N env eng) (hN : N + l.length ≤ 100000) :
    aaK (lpF (aoE l) 18446744073709551616 (0, env, w0, w1, w2, w3, cl, eng, ())) fun z => I (N + l.length) z.2.1 [z.2.2.1, z.2.2.2.1, z.2.2.2.2.1, z.2.2.2.2.2.1] z.2.2.2.2.2.2.1 ∧ EG (N + l.length) z.2.1 z.2.2.2.2.2.2.2.1 ∧ ∃ m, z.2.1.evs = env.evs ++ m := by
  refine acd (fun x => 0 ≤ x.1 ∧ x.1 ≤ (l.length : Int) ∧ I (N + x.1.toNat) x.2.1 [x.2.2.1, x.2.2.2.1, x.2.2.2.2.1, x.2.2.2.2.2.1] x.2.2.2.2.2.2.1 ∧ EG (N + x.1.toNat) x.2.1 x.2.2.2.2.2.2.2.1 ∧ ∃ m, x.2.1.evs = env.evs ++ m) (fun x => (l.length : Int).toNat - x.1.toNat) (fun self x hx ih => ?_) _ _ ?init (by show (l.length : Int).toNat - 0 < _; omega)
  case init => exact ⟨Int.le_refl 0, by show (0 : Int) ≤ _; omega, h, hg, [], by simp⟩
  obtain ⟨i, en2, w0, w1, w2, w3, cl, eng, ⟨⟩⟩ := x
  obtain ⟨q1, q2, h, hg, m0, hm⟩ := hx
  simp only at q1 q2 h hg hm
  unfold aoE
  refine aaK.ite (fun hlt => ?_) fun hge => .some_ ?iend
  case iend =>
    have hge : ¬ i < (l.length : Int) := hge
    have : i.toNat = l.length := by omega
    rw [this] at h hg
    exact ⟨h, hg, m0, hm⟩
  have hlt : i < (l.length : Int) := hlt
  refine aaK.guard ⟨q1, hlt⟩ fun _ => ?_
  rw [amc, bnd]
  refine (aFu hI (i := i) (l := l) (eng := eng) h (by omega)).bind fun z hz => ?_
  obtain ⟨ze, z0, z1, z2, z3, zc, zg, ⟨⟩⟩ := z
  obtain ⟨a3, ag, m1, hm1⟩ := hz
  simp only at a3 ag hm1
  subst ag
  have hev := hI.ev a3
  refine auZ hg ⟨m1, hm1⟩ (by show ze.evs.length ≤ _; omega) (by omega) fun eng2 he => ?_
  have ei : wi (i + 1) = i + 1 := aaH (aao (by omega))
  have en : N + i.toNat + 1 = N + (i + 1).toNat := by omega
  rw [en] at a3 he
  show aaK (self (wi (i + 1), ze, z0, z1, z2, z3, zc, _, ())) _
  rw [ei]
  exact ih _ ⟨by show 0 ≤ i + 1; omega, by show i + 1 ≤ _; omega, a3, he, m0 ++ m1, by show ze.evs = _; rw [hm1, hm, List.append_assoc]⟩ (by show _ - (i + 1).toNat < _ - i.toNat; omega)
noncomputable def aaU (y0 : List Int) (y1 : List Int) (y2 : List Int) : Option ((Bool × Unit) × (Unit)) :=
 (apq y0 ([y2])).bind fun r1 =>
 if (!r1.1.1) = true then some ((true, ()), (()))
 else
 if 800 < ((y1.length : Nat) : Int) then some ((true, ()), (()))
 else
 (afU y0).bind fun r2 =>
 (abl r2.1.1).bind fun r3 =>
 (akW y1 400).bind fun r4 =>
 if (((r3.1.1.length + r4.1.1.length : Nat)) : Int) < 1000000000000 then
  (lpF (awm y2 r2.1.1) 18446744073709551616 (r3.1.1 ++ r4.1.1, 0, ())).bind fun s =>
  (aet r2.1.1).bind fun r9 =>
  if r9.1.2.1 ≠ 0 then
   if r9.1.2.1 ≠ 0 then
    if (!true) = true then some ((false, ()), (())) else some ((false, ()), (()))
   else
   if (!true) = true then some ((false, ()), (())) else some ((false, ()), (()))
  else
  (agP r2.1.1).bind fun r12 =>
  if r2.1.1.workers = ((1 : Nat) : Int) then
   (adn 0).bind fun w0 =>
   (lpF (aoH s.1) 18446744073709551616 (0, r9.1.1, w0.1.1, r12.1.1, (0, [], 0, 0, 0, 0, ()), ())).bind fun z =>
   if (!true) = true then some ((false, ()), (()))
   else
   (lpF (aD3 z.2.1.evs) 18446744073709551616 (0, [], z.2.2.2.2.1, ())).bind fun v =>
   (akZ v.2.1).bind fun h =>
   (abM z.2.1.m).bind fun cl =>
   awh r2.1.1 h.1.1 cl.1.1
  else none
 else none
noncomputable abbrev aeZ : Con SR1 := ⟨4, [.sh (.ro 17), .sh (.ro 17), .sh (.ro 1)], [.sh .b], fun x => aaU x.1 x.2.1 x.2.2.1⟩
noncomputable def aeF : List (Nat × Func) := [(11, Tryz.f11), (32, Tryz.f32), (64, Tryz.f64), (33, Tryz.f33), (65, Tryz.f65), (14, Tryz.f14), (15, Tryz.f15)]
theorem aeG : CO Tryz.prog aeZ := aai aah Tryz.func4 [al4, ahG, abU, ajs, ab7, afE, abT, agO, agy, acs, adG, acQ, acG, adq, adP, acL, ajA, act, abS, abR] ⟨al3, ahF, acB, aj4, acF, agk, acA, ag7, agX, acY, aec, adl, adb, adT, aeg, adj, akb, acZ, acz, acy, trivial⟩ aeF ⟨Tryz.func11, Tryz.func32, Tryz.func64, Tryz.func33, Tryz.func65, Tryz.func14, Tryz.func15, trivial⟩ (fun f => (get [(32, [(6, .spl 22 [1] 2)]), (64, [(2, .unroll 2)]), (33, [(1, .loop [.rg 8 sI_, .ob 24 27, .ob 38 31, .ob 26 30, .cx 27 [.inr (.ptr 24 0), .inr (.sl 40), .inr (.ptr 26 0), .inr (.sl 66), .inl sI_, .inl (.row 1), .inl sI_, .inl sI_, .inl sU_, .inl sU_]] 18446744073709551616 0)]), (65, [(9, .cut [.ob 24 27, .ob 38 31, .ob 26 30, .cx 27 [.inr (.ptr 24 0), .inr (.sl 40), .inr (.ptr 26 0), .inr (.sl 66), .inl sI_, .inl (.row 1), .inl sI_, .inl sI_, .inl sU_, .inl sU_]] [0, 1, 2, 3, 14, 15, 69, 70, 71]), (12, .loop [.ob 24 27, .cx 27 [.inr (.ptr 24 0), .inr (.sl 40), .inr (.ptr 26 0), .inr (.sl 66), .inl sI_, .inl (.row 1), .inl sI_, .inl sI_, .inl sU_, .inl sU_]] 18446744073709551616 1)]), (14, [(3, .loop [.rg 14 sI_, .rg 3 (.row 6), .cx 27 [.inr (.ptr 24 0), .inr (.sl 40), .inr (.ptr 26 0), .inr (.sl 66), .inl sI_, .inl (.row 1), .inl sI_, .inl sI_, .inl sU_, .inl sU_]] 18446744073709551616 0)])] f).getD []) [(6, .loop [.rg 8 (.row 5), .rg 9 sI_] 18446744073709551616 0), (14, .cut [.rg 13 (.row 1), .rg 14 (.row 64)] [0, 1, 2, 3, 14, 15, 16, 18, 20, 22, 23, 24, 26, 27, 38, 40, 41, 66, 67, 70, 72, 73, 74, 75]), (15, .loop [.rg 15 sI_, .rg 13 (.row 1)] 18446744073709551616 2), (19, .loopR [.rg 16 sI_, .rg 14 (.row 64), .rg 13 (.row 1)] 18446744073709551616 4), (32, .loopR [.rg 18 sI_] 18446744073709551616 7)] fun x => by kernel_rfl
noncomputable def abd (y0 : List Int) (y1 : List Int) (y2 : List Int) : Option ((Bool × Unit) × (Unit)) :=
 (apq y0 ([y2])).bind fun r1 =>
 if (!r1.1.1) = true then some ((true, ()), (()))
 else
 if 800 < ((y1.length : Nat) : Int) then some ((true, ()), (()))
 else
 (afU y0).bind fun r2 =>
 (abl r2.1.1).bind fun r3 =>
 (akW y1 400).bind fun r4 =>
 if (((r3.1.1.length + r4.1.1.length : Nat)) : Int) < 1000000000000 then
  (lpF (awm y2 r2.1.1) 18446744073709551616 (r3.1.1 ++ r4.1.1, 0, ())).bind fun s =>
  (aet r2.1.1).bind fun r9 =>
  if r9.1.2.1 ≠ 0 then
   if r9.1.2.1 ≠ 0 then
    if (!true) = true then some ((false, ()), (())) else some ((false, ()), (()))
   else
   if (!true) = true then some ((false, ()), (())) else some ((false, ()), (()))
  else
  (agP r2.1.1).bind fun r12 =>
  if r2.1.1.workers = ((2 : Nat) : Int) then
   (adn 0).bind fun w0 =>
   (adn 1).bind fun w1 =>
   (lpF (aoG s.1) 18446744073709551616 (0, r9.1.1, w0.1.1, w1.1.1, r12.1.1, (0, [], 0, 0, 0, 0, ()), ())).bind fun z =>
   if (!true) = true then some ((false, ()), (()))
   else
   (lpF (aD3 z.2.1.evs) 18446744073709551616 (0, [], z.2.2.2.2.2.1, ())).bind fun v =>
   (akZ v.2.1).bind fun h =>
   (abM z.2.1.m).bind fun cl =>
   awh r2.1.1 h.1.1 cl.1.1
  else none
 else none
noncomputable abbrev aeY : Con SR1 := ⟨4, [.sh (.ro 17), .sh (.ro 17), .sh (.ro 1)], [.sh .b], fun x => abd x.1 x.2.1 x.2.2.1⟩
noncomputable def aeD : List (Nat × Func) := [(11, Tryz.f11), (32, Tryz.f32), (64, Tryz.f64), (33, Tryz.f33), (65, Tryz.f65), (14, Tryz.f14), (15, Tryz.f15)]
theorem aeE : CO Tryz.prog aeY := aai aah Tryz.func4 [al4, ahG, abU, ajs, ab7, afE, abT, agO, agy, acs, adG, acQ, acG, adq, adP, acL, ajA, act, abS, abR] ⟨al3, ahF, acB, aj4, acF, agk, acA, ag7, agX, acY, aec, adl, adb, adT, aeg, adj, akb, acZ, acz, acy, trivial⟩ aeD ⟨Tryz.func11, Tryz.func32, Tryz.func64, Tryz.func33, Tryz.func65, Tryz.func14, Tryz.func15, trivial⟩ (fun f => (get [(32, [(6, .spl 22 [2] 3)]), (64, [(2, .unroll 3)]), (33, [(1, .loop [.rg 8 sI_, .ob 24 27, .ob 38 31, .ob 52 31, .ob 26 30, .cx 27 [.inr (.ptr 24 0), .inr (.sl 54), .inr (.ptr 26 0), .inr (.sl 83), .inl sI_, .inl (.row 1), .inl sI_, .inl sI_, .inl sU_, .inl sU_]] 18446744073709551616 0)]), (65, [(9, .cut [.ob 24 27, .ob 38 31, .ob 52 31, .ob 26 30, .cx 27 [.inr (.ptr 24 0), .inr (.sl 54), .inr (.ptr 26 0), .inr (.sl 83), .inl sI_, .inl (.row 1), .inl sI_, .inl sI_, .inl sU_, .inl sU_]] [0, 1, 2, 3, 14, 15, 86, 87, 88]), (12, .loop [.ob 24 27, .cx 27 [.inr (.ptr 24 0), .inr (.sl 54), .inr (.ptr 26 0), .inr (.sl 83), .inl sI_, .inl (.row 1), .inl sI_, .inl sI_, .inl sU_, .inl sU_]] 18446744073709551616 1)]), (14, [(3, .loop [.rg 14 sI_, .rg 3 (.row 6), .cx 27 [.inr (.ptr 24 0), .inr (.sl 54), .inr (.ptr 26 0), .inr (.sl 83), .inl sI_, .inl (.row 1), .inl sI_, .inl sI_, .inl sU_, .inl sU_]] 18446744073709551616 0)])] f).getD []) [(6, .loop [.rg 8 (.row 5), .rg 9 sI_] 18446744073709551616 0), (14, .cut [.rg 13 (.row 1), .rg 14 (.row 64)] [0, 1, 2, 3, 14, 15, 16, 18, 20, 22, 23, 24, 26, 27, 38, 52, 54, 55, 83, 84, 87, 89, 90, 91, 92]), (15, .loop [.rg 15 sI_, .rg 13 (.row 1)] 18446744073709551616 2), (19, .loopR [.rg 16 sI_, .rg 14 (.row 64), .rg 13 (.row 1)] 18446744073709551616 4), (32, .loopR [.rg 18 sI_] 18446744073709551616 7)] fun x => by kernel_rfl
noncomputable def abc (y0 : List Int) (y1 : List Int) (y2 : List Int) : Option ((Bool × Unit) × (Unit)) :=
 (apq y0 ([y2])).bind fun r1 =>
 if (!r1.1.1) = true then some ((true, ()), (()))
 else
 if 800 < ((y1.length : Nat) : Int) then some ((true, ()), (()))
 else
 (afU y0).bind fun r2 =>
 (abl r2.1.1).bind fun r3 =>
 (akW y1 400).bind fun r4 =>
 if (((r3.1.1.length + r4.1.1.length : Nat)) : Int) < 1000000000000 then
  (lpF (awm y2 r2.1.1) 18446744073709551616 (r3.1.1 ++ r4.1.1, 0, ())).bind fun s =>
  (aet r2.1.1).bind fun r9 =>
  if r9.1.2.1 ≠ 0 then
   if r9.1.2.1 ≠ 0 then
    if (!true) = true then some ((false, ()), (())) else some ((false, ()), (()))
   else
   if (!true) = true then some ((false, ()), (())) else some ((false, ()), (()))
  else
  (agP r2.1.1).bind fun r12 =>
  if r2.1.1.workers = ((3 : Nat) : Int) then
   (adn 0).bind fun w0 =>
   (adn 1).bind fun w1 =>
   (adn 2).bind fun w2 =>
   (lpF (aoF s.1) 18446744073709551616 (0, r9.1.1, w0.1.1, w1.1.1, w2.1.1, r12.1.1, (0, [], 0, 0, 0, 0, ()), ())).bind fun z =>
   if (!true) = true then some ((false, ()), (()))
   else
   (lpF (aD3 z.2.1.evs) 18446744073709551616 (0, [], z.2.2.2.2.2.2.1, ())).bind fun v =>
   (akZ v.2.1).bind fun h =>
   (abM z.2.1.m).bind fun cl =>
   awh r2.1.1 h.1.1 cl.1.1
  else none
 else none
noncomputable abbrev aeX : Con SR1 := ⟨4, [.sh (.ro 17), .sh (.ro 17), .sh (.ro 1)], [.sh .b], fun x => abc x.1 x.2.1 x.2.2.1⟩
noncomputable def aeB : List (Nat × Func) := [(11, Tryz.f11), (32, Tryz.f32), (64, Tryz.f64), (33, Tryz.f33), (65, Tryz.f65), (14, Tryz.f14), (15, Tryz.f15)]
theorem aeC : CO Tryz.prog aeX := aai aah Tryz.func4 [al4, ahG, abU, ajs, ab7, afE, abT, agO, agy, acs, adG, acQ, acG, adq, adP, acL, ajA, act, abS, abR] ⟨al3, ahF, acB, aj4, acF, agk, acA, ag7, agX, acY, aec, adl, adb, adT, aeg, adj, akb, acZ, acz, acy, trivial⟩ aeB ⟨Tryz.func11, Tryz.func32, Tryz.func64, Tryz.func33, Tryz.func65, Tryz.func14, Tryz.func15, trivial⟩ (fun f => (get [(32, [(6, .spl 22 [3] 4)]), (64, [(2, .unroll 4)]), (33, [(1, .loop [.rg 8 sI_, .ob 24 27, .ob 38 31, .ob 52 31, .ob 66 31, .ob 26 30, .cx 27 [.inr (.ptr 24 0), .inr (.sl 68), .inr (.ptr 26 0), .inr (.sl 100), .inl sI_, .inl (.row 1), .inl sI_, .inl sI_, .inl sU_, .inl sU_]] 18446744073709551616 0)]), (65, [(9, .cut [.ob 24 27, .ob 38 31, .ob 52 31, .ob 66 31, .ob 26 30, .cx 27 [.inr (.ptr 24 0), .inr (.sl 68), .inr (.ptr 26 0), .inr (.sl 100), .inl sI_, .inl (.row 1), .inl sI_, .inl sI_, .inl sU_, .inl sU_]] [0, 1, 2, 3, 14, 15, 103, 104, 105]), (12, .loop [.ob 24 27, .cx 27 [.inr (.ptr 24 0), .inr (.sl 68), .inr (.ptr 26 0), .inr (.sl 100), .inl sI_, .inl (.row 1), .inl sI_, .inl sI_, .inl sU_, .inl sU_]] 18446744073709551616 1)]), (14, [(3, .loop [.rg 14 sI_, .rg 3 (.row 6), .cx 27 [.inr (.ptr 24 0), .inr (.sl 68), .inr (.ptr 26 0), .inr (.sl 100), .inl sI_, .inl (.row 1), .inl sI_, .inl sI_, .inl sU_, .inl sU_]] 18446744073709551616 0)])] f).getD []) [(6, .loop [.rg 8 (.row 5), .rg 9 sI_] 18446744073709551616 0), (14, .cut [.rg 13 (.row 1), .rg 14 (.row 64)] [0, 1, 2, 3, 14, 15, 16, 18, 20, 22, 23, 24, 26, 27, 38, 52, 66, 68, 69, 100, 101, 104, 106, 107, 108, 109]), (15, .loop [.rg 15 sI_, .rg 13 (.row 1)] 18446744073709551616 2), (19, .loopR [.rg 16 sI_, .rg 14 (.row 64), .rg 13 (.row 1)] 18446744073709551616 4), (32, .loopR [.rg 18 sI_] 18446744073709551616 7)] fun x => by kernel_rfl
noncomputable def abb (y0 : List Int) (y1 : List Int) (y2 : List Int) : Option ((Bool × Unit) × (Unit)) :=
 (apq y0 ([y2])).bind fun r1 =>
 if (!r1.1.1) = true then some ((true, ()), (()))
 else
 if 800 < ((y1.length : Nat) : Int) then some ((true, ()), (()))
 else
 (afU y0).bind fun r2 =>
 (abl r2.1.1).bind fun r3 =>
 (akW y1 400).bind fun r4 =>
 if (((r3.1.1.length + r4.1.1.length : Nat)) : Int) < 1000000000000 then
  (lpF (awm y2 r2.1.1) 18446744073709551616 (r3.1.1 ++ r4.1.1, 0, ())).bind fun s =>
  (aet r2.1.1).bind fun r9 =>
  if r9.1.2.1 ≠ 0 then
   if r9.1.2.1 ≠ 0 then
    if (!true) = true then some ((false, ()), (())) else some ((false, ()), (()))
   else
   if (!true) = true then some ((false, ()), (())) else some ((false, ()), (()))
  else
  (agP r2.1.1).bind fun r12 =>
  if r2.1.1.workers = ((4 : Nat) : Int) then
   (adn 0).bind fun w0 =>
   (adn 1).bind fun w1 =>
   (adn 2).bind fun w2 =>
   (adn 3).bind fun w3 =>
   (lpF (aoE s.1) 18446744073709551616 (0, r9.1.1, w0.1.1, w1.1.1, w2.1.1, w3.1.1, r12.1.1, (0, [], 0, 0, 0, 0, ()), ())).bind fun z =>
   if (!true) = true then some ((false, ()), (()))
   else
   (lpF (aD3 z.2.1.evs) 18446744073709551616 (0, [], z.2.2.2.2.2.2.2.1, ())).bind fun v =>
   (akZ v.2.1).bind fun h =>
   (abM z.2.1.m).bind fun cl =>
   awh r2.1.1 h.1.1 cl.1.1
  else none
 else none
noncomputable abbrev aeW : Con SR1 := ⟨4, [.sh (.ro 17), .sh (.ro 17), .sh (.ro 1)], [.sh .b], fun x => abb x.1 x.2.1 x.2.2.1⟩
noncomputable def aez : List (Nat × Func) := [(11, Tryz.f11), (32, Tryz.f32), (64, Tryz.f64), (33, Tryz.f33), (65, Tryz.f65), (14, Tryz.f14), (15, Tryz.f15)]
theorem aeA : CO Tryz.prog aeW := aai aah Tryz.func4 [al4, ahG, abU, ajs, ab7, afE, abT, agO, agy, acs, adG, acQ, acG, adq, adP, acL, ajA, act, abS, abR] ⟨al3, ahF, acB, aj4, acF, agk, acA, ag7, agX, acY, aec, adl, adb, adT, aeg, adj, akb, acZ, acz, acy, trivial⟩ aez ⟨Tryz.func11, Tryz.func32, Tryz.func64, Tryz.func33, Tryz.func65, Tryz.func14, Tryz.func15, trivial⟩ (fun f => (get [(32, [(6, .spl 22 [4] 5)]), (64, [(2, .unroll 5)]), (33, [(1, .loop [.rg 8 sI_, .ob 24 27, .ob 38 31, .ob 52 31, .ob 66 31, .ob 80 31, .ob 26 30, .cx 27 [.inr (.ptr 24 0), .inr (.sl 82), .inr (.ptr 26 0), .inr (.sl 117), .inl sI_, .inl (.row 1), .inl sI_, .inl sI_, .inl sU_, .inl sU_]] 18446744073709551616 0)]), (65, [(9, .cut [.ob 24 27, .ob 38 31, .ob 52 31, .ob 66 31, .ob 80 31, .ob 26 30, .cx 27 [.inr (.ptr 24 0), .inr (.sl 82), .inr (.ptr 26 0), .inr (.sl 117), .inl sI_, .inl (.row 1), .inl sI_, .inl sI_, .inl sU_, .inl sU_]] [0, 1, 2, 3, 14, 15, 120, 121, 122]), (12, .loop [.ob 24 27, .cx 27 [.inr (.ptr 24 0), .inr (.sl 82), .inr (.ptr 26 0), .inr (.sl 117), .inl sI_, .inl (.row 1), .inl sI_, .inl sI_, .inl sU_, .inl sU_]] 18446744073709551616 1)]), (14, [(3, .loop [.rg 14 sI_, .rg 3 (.row 6), .cx 27 [.inr (.ptr 24 0), .inr (.sl 82), .inr (.ptr 26 0), .inr (.sl 117), .inl sI_, .inl (.row 1), .inl sI_, .inl sI_, .inl sU_, .inl sU_]] 18446744073709551616 0)])] f).getD []) [(6, .loop [.rg 8 (.row 5), .rg 9 sI_] 18446744073709551616 0), (14, .cut [.rg 13 (.row 1), .rg 14 (.row 64)] [0, 1, 2, 3, 14, 15, 16, 18, 20, 22, 23, 24, 26, 27, 38, 52, 66, 80, 82, 83, 117, 118, 121, 123, 124, 125, 126]), (15, .loop [.rg 15 sI_, .rg 13 (.row 1)] 18446744073709551616 2), (19, .loopR [.rg 16 sI_, .rg 14 (.row 64), .rg 13 (.row 1)] 18446744073709551616 4), (32, .loopR [.rg 18 sI_] 18446744073709551616 7)] fun x => by kernel_rfl
end
end Go.Proofs.YteapeojalliebaaGreat
