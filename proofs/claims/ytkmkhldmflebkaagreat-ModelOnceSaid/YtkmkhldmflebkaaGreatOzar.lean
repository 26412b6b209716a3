/- The model of the program in the evaluator's form. The program's model: which events are in their ranges. The program's model: what its small functions answer. The program's model: what each kind of event does. The program's model: what each kind of event does (tops,walks,the queue). The program's queue. The program's model: what each kind of event does (the queue,walks up the parents). The tasks that are known are counted; a ghost of the other model. The two models: when their states agree,and what keeps that. -/
import Derived.Test.YtkmkhldmflebkaaGreatOzaq
import Derived.Test.YtkmkhldmflebkaaGreatOzai
set_option linter.all false
namespace Go.Proofs.YtkmkhldmflebkaaGreat
section
open Go Go.RowKit
set_option maxRecDepth 100000
variable [Tb]
noncomputable def abE (y0 : SyP) : Option ((List VwV × Unit) × (SyP × Unit)) :=
 (lpF (σ := List VwV × Int × List TkP × (Int × Int × Int × Int × Int × Int × Int × Int × Int × List (List Ins) × List Sub × List WkP × Int × Int × List KyV × Int × Unit) × Unit) (β := List VwV × Int × List TkP × (Int × Int × Int × Int × Int × Int × Int × Int × Int × List (List Ins) × List Sub × List WkP × Int × Int × List KyV × Int × Unit) × Unit) (fun self3 x1 =>
  if x1.2.1 < ((y0.tasks.length : Nat) : Int) then
   if 0 ≤ x1.2.1 ∧ x1.2.1 < ((x1.2.2.1.length : Nat) : Int) then
   if ((aaf x1.2.2.1 x1.2.1).ph) = 3 then
   if ((aaf x1.2.2.1 x1.2.1).ph) = 2 then
   (lpF (σ := Int × List WkP × Unit) (β := (Int × List WkP × Unit) ⊕ (List VwV × Int × List TkP × (Int × Int × Int × Int × Int × Int × Int × Int × Int × List (List Ins) × List Sub × List WkP × Int × Int × List KyV × Int × Unit) × Unit)) (fun self6 x4 =>
   if x4.1 < ((x1.2.2.2.1.2.2.2.2.2.2.2.2.2.2.2.1.length : Nat) : Int) then
   if 0 ≤ x4.1 ∧ x4.1 < ((x4.2.1.length : Nat) : Int) then
   (lpF (σ := Int × Unit × Unit) (β := (Int × Unit × Unit) ⊕ ((Int × List WkP × Unit) ⊕ (List VwV × Int × List TkP × (Int × Int × Int × Int × Int × Int × Int × Int × Int × List (List Ins) × List Sub × List WkP × Int × Int × List KyV × Int × Unit) × Unit))) (fun self9 x7 =>
   if x7.1 < ((((aak x4.2.1 x4.1).stack).length : Nat) : Int) then
   if 0 ≤ x7.1 ∧ x7.1 < ((((aak x4.2.1 x4.1).stack).length : Nat) : Int) then
   if x1.2.1 = (aae ((aak x4.2.1 x4.1).stack) x7.1) then
   Option.map Sum.inr (
   if 0 ≤ x7.1 then
   Option.map Sum.inr (
   if (((x1.1.length + ([(⟨(aaf x1.2.2.1 x1.2.1).ph,(aaf x1.2.2.1 x1.2.1).lv,(aaf x1.2.2.1 x1.2.1).pa,x4.1,(aaf x1.2.2.1 x1.2.1).wt⟩ : VwV)] : List VwV).length : Nat)) : Int) < 1000000000000 then
   self3 (x1.1 ++ ([(⟨(aaf x1.2.2.1 x1.2.1).ph,(aaf x1.2.2.1 x1.2.1).lv,(aaf x1.2.2.1 x1.2.1).pa,x4.1,(aaf x1.2.2.1 x1.2.1).wt⟩ : VwV)]),wi (x1.2.1 + 1),x1.2.2.1.set x1.2.1.toNat (aaf x1.2.2.1 x1.2.1),(x1.2.2.2.1.1,x1.2.2.2.1.2.1,x1.2.2.2.1.2.2.1,x1.2.2.2.1.2.2.2.1,x1.2.2.2.1.2.2.2.2.1,x1.2.2.2.1.2.2.2.2.2.1,x1.2.2.2.1.2.2.2.2.2.2.1,x1.2.2.2.1.2.2.2.2.2.2.2.1,x1.2.2.2.1.2.2.2.2.2.2.2.2.1,x1.2.2.2.1.2.2.2.2.2.2.2.2.2.1,x1.2.2.2.1.2.2.2.2.2.2.2.2.2.2.1,x4.2.1.set x4.1.toNat (aak x4.2.1 x4.1),x1.2.2.2.1.2.2.2.2.2.2.2.2.2.2.2.2.1,x1.2.2.2.1.2.2.2.2.2.2.2.2.2.2.2.2.2.1,x1.2.2.2.1.2.2.2.2.2.2.2.2.2.2.2.2.2.2.1,x1.2.2.2.1.2.2.2.2.2.2.2.2.2.2.2.2.2.2.2.1,()),())
   else none
   )
   else
   self6 (wi (x4.1 + 1),x4.2.1.set x4.1.toNat (aak x4.2.1 x4.1),())
   )
   else
   self9 (wi (x7.1 + 1),(),())
   else none
   else
   some (Sum.inl (x7.1,(),()))
   ) 18446744073709551616 (0,(),())).bind fun z8 =>match z8 with
   | .inr o10 =>some o10
   | .inl z8 =>
   self6 (wi (x4.1 + 1),x4.2.1.set x4.1.toNat (aak x4.2.1 x4.1),())
   else none
   else
   some (Sum.inl (x4.1,x4.2.1,()))
   ) 18446744073709551616 (0,x1.2.2.2.1.2.2.2.2.2.2.2.2.2.2.2.1,())).bind fun z5 =>match z5 with
   | .inr o11 =>some o11
   | .inl z5 =>
   if (((x1.1.length + ([(⟨(aaf x1.2.2.1 x1.2.1).ph,(aaf x1.2.2.1 x1.2.1).lv,(aaf x1.2.2.1 x1.2.1).pa,(-1),(aaf x1.2.2.1 x1.2.1).wt⟩ : VwV)] : List VwV).length : Nat)) : Int) < 1000000000000 then
   self3 (x1.1 ++ ([(⟨(aaf x1.2.2.1 x1.2.1).ph,(aaf x1.2.2.1 x1.2.1).lv,(aaf x1.2.2.1 x1.2.1).pa,(-1),(aaf x1.2.2.1 x1.2.1).wt⟩ : VwV)]),wi (x1.2.1 + 1),x1.2.2.1.set x1.2.1.toNat (aaf x1.2.2.1 x1.2.1),(x1.2.2.2.1.1,x1.2.2.2.1.2.1,x1.2.2.2.1.2.2.1,x1.2.2.2.1.2.2.2.1,x1.2.2.2.1.2.2.2.2.1,x1.2.2.2.1.2.2.2.2.2.1,x1.2.2.2.1.2.2.2.2.2.2.1,x1.2.2.2.1.2.2.2.2.2.2.2.1,x1.2.2.2.1.2.2.2.2.2.2.2.2.1,x1.2.2.2.1.2.2.2.2.2.2.2.2.2.1,x1.2.2.2.1.2.2.2.2.2.2.2.2.2.2.1,z5.2.1,x1.2.2.2.1.2.2.2.2.2.2.2.2.2.2.2.2.1,x1.2.2.2.1.2.2.2.2.2.2.2.2.2.2.2.2.2.1,x1.2.2.2.1.2.2.2.2.2.2.2.2.2.2.2.2.2.2.1,x1.2.2.2.1.2.2.2.2.2.2.2.2.2.2.2.2.2.2.2.1,()),())
   else none
   else
   if (((x1.1.length + ([(⟨(aaf x1.2.2.1 x1.2.1).ph,(aaf x1.2.2.1 x1.2.1).lv,(aaf x1.2.2.1 x1.2.1).pa,(-1),(aaf x1.2.2.1 x1.2.1).wt⟩ : VwV)] : List VwV).length : Nat)) : Int) < 1000000000000 then
   self3 (x1.1 ++ ([(⟨(aaf x1.2.2.1 x1.2.1).ph,(aaf x1.2.2.1 x1.2.1).lv,(aaf x1.2.2.1 x1.2.1).pa,(-1),(aaf x1.2.2.1 x1.2.1).wt⟩ : VwV)]),wi (x1.2.1 + 1),x1.2.2.1.set x1.2.1.toNat (aaf x1.2.2.1 x1.2.1),(x1.2.2.2.1.1,x1.2.2.2.1.2.1,x1.2.2.2.1.2.2.1,x1.2.2.2.1.2.2.2.1,x1.2.2.2.1.2.2.2.2.1,x1.2.2.2.1.2.2.2.2.2.1,x1.2.2.2.1.2.2.2.2.2.2.1,x1.2.2.2.1.2.2.2.2.2.2.2.1,x1.2.2.2.1.2.2.2.2.2.2.2.2.1,x1.2.2.2.1.2.2.2.2.2.2.2.2.2.1,x1.2.2.2.1.2.2.2.2.2.2.2.2.2.2.1,x1.2.2.2.1.2.2.2.2.2.2.2.2.2.2.2.1,x1.2.2.2.1.2.2.2.2.2.2.2.2.2.2.2.2.1,x1.2.2.2.1.2.2.2.2.2.2.2.2.2.2.2.2.2.1,x1.2.2.2.1.2.2.2.2.2.2.2.2.2.2.2.2.2.2.1,x1.2.2.2.1.2.2.2.2.2.2.2.2.2.2.2.2.2.2.2.1,()),())
   else none
   else
   if ((aaf x1.2.2.1 x1.2.1).ph) = 2 then
   (lpF (σ := Int × List WkP × Unit) (β := (Int × List WkP × Unit) ⊕ (List VwV × Int × List TkP × (Int × Int × Int × Int × Int × Int × Int × Int × Int × List (List Ins) × List Sub × List WkP × Int × Int × List KyV × Int × Unit) × Unit)) (fun self14 x12 =>
   if x12.1 < ((x1.2.2.2.1.2.2.2.2.2.2.2.2.2.2.2.1.length : Nat) : Int) then
   if 0 ≤ x12.1 ∧ x12.1 < ((x12.2.1.length : Nat) : Int) then
   (lpF (σ := Int × Unit × Unit) (β := (Int × Unit × Unit) ⊕ ((Int × List WkP × Unit) ⊕ (List VwV × Int × List TkP × (Int × Int × Int × Int × Int × Int × Int × Int × Int × List (List Ins) × List Sub × List WkP × Int × Int × List KyV × Int × Unit) × Unit))) (fun self17 x15 =>
   if x15.1 < ((((aak x12.2.1 x12.1).stack).length : Nat) : Int) then
   if 0 ≤ x15.1 ∧ x15.1 < ((((aak x12.2.1 x12.1).stack).length : Nat) : Int) then
   if x1.2.1 = (aae ((aak x12.2.1 x12.1).stack) x15.1) then
   Option.map Sum.inr (
   if 0 ≤ x15.1 then
   Option.map Sum.inr (
   if (((x1.1.length + ([(⟨(aaf x1.2.2.1 x1.2.1).ph,(aaf x1.2.2.1 x1.2.1).lv,(aaf x1.2.2.1 x1.2.1).pa,x12.1,(-1)⟩ : VwV)] : List VwV).length : Nat)) : Int) < 1000000000000 then
   self3 (x1.1 ++ ([(⟨(aaf x1.2.2.1 x1.2.1).ph,(aaf x1.2.2.1 x1.2.1).lv,(aaf x1.2.2.1 x1.2.1).pa,x12.1,(-1)⟩ : VwV)]),wi (x1.2.1 + 1),x1.2.2.1.set x1.2.1.toNat (aaf x1.2.2.1 x1.2.1),(x1.2.2.2.1.1,x1.2.2.2.1.2.1,x1.2.2.2.1.2.2.1,x1.2.2.2.1.2.2.2.1,x1.2.2.2.1.2.2.2.2.1,x1.2.2.2.1.2.2.2.2.2.1,x1.2.2.2.1.2.2.2.2.2.2.1,x1.2.2.2.1.2.2.2.2.2.2.2.1,x1.2.2.2.1.2.2.2.2.2.2.2.2.1,x1.2.2.2.1.2.2.2.2.2.2.2.2.2.1,x1.2.2.2.1.2.2.2.2.2.2.2.2.2.2.1,x12.2.1.set x12.1.toNat (aak x12.2.1 x12.1),x1.2.2.2.1.2.2.2.2.2.2.2.2.2.2.2.2.1,x1.2.2.2.1.2.2.2.2.2.2.2.2.2.2.2.2.2.1,x1.2.2.2.1.2.2.2.2.2.2.2.2.2.2.2.2.2.2.1,x1.2.2.2.1.2.2.2.2.2.2.2.2.2.2.2.2.2.2.2.1,()),())
   else none
   )
   else
   self14 (wi (x12.1 + 1),x12.2.1.set x12.1.toNat (aak x12.2.1 x12.1),())
   )
   else
   self17 (wi (x15.1 + 1),(),())
   else none
   else
   some (Sum.inl (x15.1,(),()))
   ) 18446744073709551616 (0,(),())).bind fun z16 =>match z16 with
   | .inr o18 =>some o18
   | .inl z16 =>
   self14 (wi (x12.1 + 1),x12.2.1.set x12.1.toNat (aak x12.2.1 x12.1),())
   else none
   else
   some (Sum.inl (x12.1,x12.2.1,()))
   ) 18446744073709551616 (0,x1.2.2.2.1.2.2.2.2.2.2.2.2.2.2.2.1,())).bind fun z13 =>match z13 with
   | .inr o19 =>some o19
   | .inl z13 =>
   if (((x1.1.length + ([(⟨(aaf x1.2.2.1 x1.2.1).ph,(aaf x1.2.2.1 x1.2.1).lv,(aaf x1.2.2.1 x1.2.1).pa,(-1),(-1)⟩ : VwV)] : List VwV).length : Nat)) : Int) < 1000000000000 then
   self3 (x1.1 ++ ([(⟨(aaf x1.2.2.1 x1.2.1).ph,(aaf x1.2.2.1 x1.2.1).lv,(aaf x1.2.2.1 x1.2.1).pa,(-1),(-1)⟩ : VwV)]),wi (x1.2.1 + 1),x1.2.2.1.set x1.2.1.toNat (aaf x1.2.2.1 x1.2.1),(x1.2.2.2.1.1,x1.2.2.2.1.2.1,x1.2.2.2.1.2.2.1,x1.2.2.2.1.2.2.2.1,x1.2.2.2.1.2.2.2.2.1,x1.2.2.2.1.2.2.2.2.2.1,x1.2.2.2.1.2.2.2.2.2.2.1,x1.2.2.2.1.2.2.2.2.2.2.2.1,x1.2.2.2.1.2.2.2.2.2.2.2.2.1,x1.2.2.2.1.2.2.2.2.2.2.2.2.2.1,x1.2.2.2.1.2.2.2.2.2.2.2.2.2.2.1,z13.2.1,x1.2.2.2.1.2.2.2.2.2.2.2.2.2.2.2.2.1,x1.2.2.2.1.2.2.2.2.2.2.2.2.2.2.2.2.2.1,x1.2.2.2.1.2.2.2.2.2.2.2.2.2.2.2.2.2.2.1,x1.2.2.2.1.2.2.2.2.2.2.2.2.2.2.2.2.2.2.2.1,()),())
   else none
   else
   if (((x1.1.length + ([(⟨(aaf x1.2.2.1 x1.2.1).ph,(aaf x1.2.2.1 x1.2.1).lv,(aaf x1.2.2.1 x1.2.1).pa,(-1),(-1)⟩ : VwV)] : List VwV).length : Nat)) : Int) < 1000000000000 then
   self3 (x1.1 ++ ([(⟨(aaf x1.2.2.1 x1.2.1).ph,(aaf x1.2.2.1 x1.2.1).lv,(aaf x1.2.2.1 x1.2.1).pa,(-1),(-1)⟩ : VwV)]),wi (x1.2.1 + 1),x1.2.2.1.set x1.2.1.toNat (aaf x1.2.2.1 x1.2.1),(x1.2.2.2.1.1,x1.2.2.2.1.2.1,x1.2.2.2.1.2.2.1,x1.2.2.2.1.2.2.2.1,x1.2.2.2.1.2.2.2.2.1,x1.2.2.2.1.2.2.2.2.2.1,x1.2.2.2.1.2.2.2.2.2.2.1,x1.2.2.2.1.2.2.2.2.2.2.2.1,x1.2.2.2.1.2.2.2.2.2.2.2.2.1,x1.2.2.2.1.2.2.2.2.2.2.2.2.2.1,x1.2.2.2.1.2.2.2.2.2.2.2.2.2.2.1,x1.2.2.2.1.2.2.2.2.2.2.2.2.2.2.2.1,x1.2.2.2.1.2.2.2.2.2.2.2.2.2.2.2.2.1,x1.2.2.2.1.2.2.2.2.2.2.2.2.2.2.2.2.2.1,x1.2.2.2.1.2.2.2.2.2.2.2.2.2.2.2.2.2.2.1,x1.2.2.2.1.2.2.2.2.2.2.2.2.2.2.2.2.2.2.2.1,()),())
   else none
   else none
  else
  some (x1.1,x1.2.1,x1.2.2.1,(x1.2.2.2.1.1,x1.2.2.2.1.2.1,x1.2.2.2.1.2.2.1,x1.2.2.2.1.2.2.2.1,x1.2.2.2.1.2.2.2.2.1,x1.2.2.2.1.2.2.2.2.2.1,x1.2.2.2.1.2.2.2.2.2.2.1,x1.2.2.2.1.2.2.2.2.2.2.2.1,x1.2.2.2.1.2.2.2.2.2.2.2.2.1,x1.2.2.2.1.2.2.2.2.2.2.2.2.2.1,x1.2.2.2.1.2.2.2.2.2.2.2.2.2.2.1,x1.2.2.2.1.2.2.2.2.2.2.2.2.2.2.2.1,x1.2.2.2.1.2.2.2.2.2.2.2.2.2.2.2.2.1,x1.2.2.2.1.2.2.2.2.2.2.2.2.2.2.2.2.2.1,x1.2.2.2.1.2.2.2.2.2.2.2.2.2.2.2.2.2.2.1,x1.2.2.2.1.2.2.2.2.2.2.2.2.2.2.2.2.2.2.2.1,()),())
 ) 18446744073709551616 ([],0,y0.tasks,(y0.c.workers,y0.c.levels,y0.c.classes,y0.c.tasks,y0.c.deque,y0.c.heap,y0.c.batch,y0.c.age,y0.c.patience,y0.c.progs,y0.c.subs,y0.works,y0.offers,y0.known,y0.queue.keys,y0.queue.count,()),())).bind fun z2 =>
 some ((z2.1,()),((⟨⟨z2.2.2.2.1.1,z2.2.2.2.1.2.1,z2.2.2.2.1.2.2.1,z2.2.2.2.1.2.2.2.1,z2.2.2.2.1.2.2.2.2.1,z2.2.2.2.1.2.2.2.2.2.1,z2.2.2.2.1.2.2.2.2.2.2.1,z2.2.2.2.1.2.2.2.2.2.2.2.1,z2.2.2.2.1.2.2.2.2.2.2.2.2.1,z2.2.2.2.1.2.2.2.2.2.2.2.2.2.1,z2.2.2.2.1.2.2.2.2.2.2.2.2.2.2.1⟩,z2.2.2.1,z2.2.2.2.1.2.2.2.2.2.2.2.2.2.2.2.1,z2.2.2.2.1.2.2.2.2.2.2.2.2.2.2.2.2.1,z2.2.2.2.1.2.2.2.2.2.2.2.2.2.2.2.2.2.1,⟨z2.2.2.2.1.2.2.2.2.2.2.2.2.2.2.2.2.2.2.1,z2.2.2.2.1.2.2.2.2.2.2.2.2.2.2.2.2.2.2.2.1⟩⟩ : SyP),()))
noncomputable abbrev adS : Con SR1 := ⟨27,[.ref 72],[.sh (.row 66)],fun x =>abE x.1⟩
noncomputable def aga : List (Nat × Func) := [(55,Tryz.f55),(56,Tryz.f56),(57,Tryz.f57),(81,Tryz.f81)]
theorem agb : CO Tryz.prog adS := aaC aaB Tryz.func27 [] trivial aga ⟨Tryz.func55,Tryz.func56,Tryz.func57,Tryz.func81,trivial⟩ (fun f =>(get [(55,[(2,.loopR [.rg 8 sI_,.rw 15 71] 18446744073709551616 0)]),(81,[(2,.loopR [.rg 8 sI_,.kp] 18446744073709551616 0)])] f).getD []) [(3,.loop [.rg 3 (.row 66),.rg 12 sI_,.rw 1 70,.cx 0 [.inl sI_,.inl sI_,.inl sI_,.inl sI_,.inl sI_,.inl sI_,.inl sI_,.inl sI_,.inl sI_,.inl (.rr 3),.inl (.ro 4),.inr (.sl 1),.inl (.row 71),.inl sI_,.inl sI_,.inl (.row 68),.inl sI_]] 18446744073709551616 0)] fun x =>by kernel_rfl
noncomputable def ac5 (y0 : Cfg) : Option ((SyP × Unit) × (Unit)) :=
 if (wi (y0.workers + 1)) = (wi (y0.workers + 1)) then
  if 0 ≤ (wi (y0.workers + 1)) ∧ (wi (y0.workers + 1)) ≤ 1099511627776 then
   if y0.workers = y0.workers then
   if y0.levels = y0.levels then
   if y0.classes = y0.classes then
   if y0.tasks = y0.tasks then
   if y0.deque = y0.deque then
   if y0.heap = y0.heap then
   if y0.batch = y0.batch then
   if y0.age = y0.age then
   if y0.patience = y0.patience then
   (lpF (σ := Int × SyP × Unit) (β := Int × SyP × Unit) (fun self3 x1 =>
   if x1.1 < y0.tasks then
   if (((x1.2.1.tasks.length + ([(⟨0,(-1),(-1),[],0,[],(-1)⟩ : TkP)] : List TkP).length : Nat)) : Int) < 100000000000 then
   self3 (wi (x1.1 + 1),({ x1.2.1 with tasks := x1.2.1.tasks ++ ([(⟨0,(-1),(-1),[],0,[],(-1)⟩ : TkP)]) } : SyP),())
   else none
   else
   some (x1.1,x1.2.1,())
   ) 18446744073709551616 (0,(⟨y0,[],List.replicate (wi (y0.workers + 1) : Int).toNat (dfR 71 : WkP),0,0,⟨[],0⟩⟩ : SyP),())).bind fun z2 =>
   some ((z2.2.1,()),())
   else none
   else none
   else none
   else none
   else none
   else none
   else none
   else none
   else none
  else none
 else none
noncomputable abbrev aeO : Con SR1 := ⟨25,[.val 13],[.sh (.own 72)],fun x =>ac5 x.1⟩
theorem aht : CO Tryz.prog aeO := aaC aaB Tryz.func25 [] trivial [] trivial (fun _ =>[]) [(3,.loop [.rg 13 sI_,.rg 3 (.own 72)] 18446744073709551616 0)] fun x =>by kernel_rfl
noncomputable def agf (y0 : Cfg) (y1 : List Ev) : Option ((List VwV × Int × Int × Unit) × (Unit)) :=
 (ak9 y0).bind fun r1 =>
 if r1.1.1 ≠ 0 then
  some (([],0,r1.1.1,()),())
 else
 (ac5 y0).bind fun r2 =>
 (lpF (σ := Int × SyP × Unit) (β := (Int × SyP × Unit) ⊕ ((List VwV × Int × Int × Unit) × (Unit))) (fun self5 x3 =>
  if x3.1 < ((y1.length : Nat) : Int) then
   if 0 ≤ x3.1 ∧ x3.1 < ((y1.length : Nat) : Int) then
   (aah x3.2.1 (aaL y1 x3.1)).bind fun r6 =>
   if (!r6.1.1) = true then
   (abE r6.2.1).bind fun r7 =>
   Option.map Sum.inr (
   some ((r7.1.1,x3.1,6,()),())
   )
   else
   self5 (wi (x3.1 + 1),r6.2.1,())
   else none
  else
  some (Sum.inl (x3.1,x3.2.1,()))
 ) 18446744073709551616 (0,r2.1.1,())).bind fun z4 =>match z4 with
 | .inr o8 =>some o8
 | .inl z4 =>
 (abE z4.2.1).bind fun r9 =>
 some ((r9.1.1,((y1.length : Nat) : Int),0,()),())
noncomputable abbrev agR : Con SR1 := ⟨14,[.val 13,.sh (.ro 2)],[.sh (.row 66),.sh sI_,.sh sI_],fun x =>agf x.1 x.2.1⟩
theorem ajl : CO Tryz.prog agR := aaC aaB Tryz.func14 [aj3,aeO,adT,adS] ⟨anM,aht,agc,agb,trivial⟩ [] trivial (fun _ =>[]) [(6,.loopR [.rg 20 sI_,.rg 8 (.own 72)] 18446744073709551616 0)] fun x =>by kernel_rfl
noncomputable def acz (y0 : Cfg) (y1 : List Ev) : Option ((Int × Int × Unit) × (Unit)) :=
 (agf y0 y1).bind fun r1 =>
 some ((r1.1.2.1,r1.1.2.2.1,()),())
noncomputable abbrev afe : Con SR1 := ⟨10,[.val 13,.sh (.ro 2)],[.sh sI_,.sh sI_],fun x =>acz x.1 x.2.1⟩
theorem agS : CO Tryz.prog afe := aaC aaB Tryz.func10 [agR] ⟨ajl,trivial⟩ [] trivial (fun _ =>[]) [] fun x =>by kernel_rfl
end
section
open Go Go.RowKit
set_option maxRecDepth 1000000
theorem abo {α β : Type} (a : α) (f : α → Option β) : (some a).bind f = f a := rfl
variable [Tb]
theorem aqx {α : Type} {d : α} {xs : List α} {i : Int} (h : 0 ≤ i ∧ i < (xs.length : Int)) : xs.set i.toNat (atL d xs i) = xs := by
 have h1 : i.toNat < xs.length := by omega
 have h2 : xs[i.toNat]? = some (atL d xs i) := abZ h
 apply List.ext_getElem?
 intro j
 by_cases e : i.toNat = j
 ·subst e; rw [List.getElem?_set_self h1,h2]
 ·rw [List.getElem?_set_ne e]
section
variable {s : SyP} {k w t o l : Int}
def rgP (c : Cfg) (k w t o l : Int) : Prop :=
 (if k = 2 ∨ k = 16 ∨ k = 17 ∨ k = 18 then t = 0 else 0 ≤ t ∧ t < c.tasks) ∧
 (if k = 1 ∨ k = 3 ∨ k = 7 ∨ k = 11 ∨ k = 12 ∨ k = 14 ∨ k = 19 then 0 ≤ l ∧ l < c.levels else if k = 2 then True else l = 0) ∧
 (if k = 3 ∨ k = 6 ∨ k = 8 then 0 ≤ o ∧ o < c.tasks else if k = 14 ∨ k = 18 then 0 ≤ o ∧ o < c.workers else if k = 1 ∨ k = 2 ∨ k = 17 then True else o = 0) ∧
 (if k = 1 ∨ k = 2 then w = c.workers else if k = 18 then 0 ≤ w ∧ w ≤ c.workers else 0 ≤ w ∧ w < c.workers)
theorem aqN (h : k < 1) : aaj s ⟨k,w,t,o,l⟩ = some ((false,()),(s,())) := by
 unfold aaj
 exact if_pos h
theorem aqP (h : 19 < k) : aaj s ⟨k,w,t,o,l⟩ = some ((false,()),(s,())) := by
 unfold aaj
 exact (if_neg (show ¬ k < 1 by omega)).trans (if_pos (show ((19 : Nat) : Int) < k by omega))
set_option maxHeartbeats 4000000 in
theorem aqO (h1 : 1 ≤ k) (h2 : k ≤ 19) : ∃ b,aaj s ⟨k,w,t,o,l⟩ = some ((b,()),(s,())) ∧ (b = true ↔ rgP s.c k w t o l) := by
 obtain ⟨n,hn⟩ : ∃ n : Nat,n < 19 ∧ k = (n : Int) + 1 := ⟨(k - 1).toNat,by omega,by omega⟩
 obtain ⟨hn,rfl⟩ := hn
 unfold aaj rgP
 rcases n with _ | _ | _ | _ | _ | _ | _ | _ | _ | _ | _ | _ | _ | _ | _ | _ | _ | _ | _ | n
 all_goals first | exact absurd hn (by omega) | skip
 all_goals clear h1 h2 hn
 all_goals simp (config := { decide := true }) only [if_true,if_false,abo]
 all_goals repeat' split
 all_goals (try simp only [abo,if_true,if_false,decide_eq_true_eq,Bool.false_eq_true])
 all_goals repeat' split
 all_goals (try simp only [abo,if_true,if_false,decide_eq_true_eq,Bool.false_eq_true])
 all_goals repeat' split
 all_goals (refine ⟨_,rfl,?_⟩; simp only [decide_eq_true_eq,Bool.false_eq_true,true_and,and_true,true_iff,false_iff] at *; omega)
end
end
section
open Go Go.RowKit
set_option maxRecDepth 1000000
variable [Tb]
theorem lpS {σ β : Type} (F : (σ → Option β) → σ → Option β) (k : Nat) (x : σ) : lpF F (k + 1) x = F (lpF F k) x := rfl
section
variable {i : Int}
theorem abi {xs : List TkP} (h : 0 ≤ i ∧ i < (xs.length : Int)) : xs.set i.toNat (aaf xs i) = xs := aqx h
theorem abe {xs : List WkP} (h : 0 ≤ i ∧ i < (xs.length : Int)) : xs.set i.toNat (aak xs i) = xs := aqx h
theorem asM {α : Type} {d : α} {xs : List α} {v : α} (h : 0 ≤ i ∧ i < (xs.length : Int)) : atL d (xs.set i.toNat v) i = v := by
 unfold atL
 rw [List.getElem?_set_self (by omega)]; rfl
theorem aoZ {α : Type} {d : α} {xs : List α} {v : α} {j : Int} (hi : 0 ≤ i) (hj : 0 ≤ j) (h : i ≠ j) : atL d (xs.set i.toNat v) j = atL d xs j := by
 unfold atL
 rw [List.getElem?_set_ne (by omega)]
theorem ag6 {xs : List TkP} {v : TkP} (h : 0 ≤ i ∧ i < (xs.length : Int)) : aaf (xs.set i.toNat v) i = v := asM h
theorem ahb {xs : List WkP} {v : WkP} (h : 0 ≤ i ∧ i < (xs.length : Int)) : aak (xs.set i.toNat v) i = v := asM h
theorem aAb {xs : List TkV} {v : TkV} (h : 0 ≤ i ∧ i < (xs.length : Int)) : aat (xs.set i.toNat v) i = v := asM h
theorem aAF {xs : List WlV} {v : WlV} (h : 0 ≤ i ∧ i < (xs.length : Int)) : abS (xs.set i.toNat v) i = v := asM h
end
def leK (a b : KyV) : Prop := a.deadline < b.deadline ∨ a.deadline = b.deadline ∧ a.arrival < b.arrival
noncomputable def ach (s : List Int) : Int := if (s.length : Int) = 0 then -1 else aae s ((s.length : Int) - 1)
def avb (s : List Int) (walks : Bool) : Bool := if (s.length : Int) = 0 then !walks else false
theorem adz {x : WkP} (h : x.stack.length ≤ 1000000) : abK x = some ((ach x.stack,()),(x,())) := by
 unfold abK ach
 have e1 : wi ((x.stack.length : Int) - 1) = (x.stack.length : Int) - 1 := aa7 (aab (by omega))
 rw [e1]
 split
 ·rfl
 ·rw [if_pos (by omega)]
theorem aa4 {x : WkP} : abp x = some ((avb x.stack x.walks,()),(x,())) := by
 unfold abp avb
 split <;> rfl
noncomputable def chV (kids : List Int) (a : Int) : Int := if a < 0 then -1 else if (kids.length : Int) ≤ a then -1 else aae kids a
theorem aci {x : TkP} {a : Int} : ack x a = some ((chV x.kids a,()),(x,())) := by
 unfold ack chV
 split
 ·rfl
 ·split
  ·rfl
  ·rw [if_pos (by omega)]
noncomputable def al2 (P : List Ins) (kids : List Int) : Nat → Int → Int × Ins × Bool
 | 0,a =>(a,⟨0,0,0⟩,false)
 | f + 1,a =>if a < (P.length : Int) then (if (acv P a).op = 1 then (a,acv P a,true) else if (acv P a).op = 2 ∧ chV kids (acv P a).a ≠ -1 then (a,acv P a,true) else al2 P kids f (a + 1)) else (a,⟨0,0,0⟩,false)
noncomputable def apH (P : List Ins) (kids : List Int) (a : Int) : Int × Ins × Bool := al2 P kids (P.length + 1) a
theorem al1 {P : List Ins} {kids : List Int} : ∀ {f : Nat} {a : Int},0 ≤ a → (P.length : Int) + 1 - a ≤ f → a ≤ (P.length : Int) →
  (a ≤ (al2 P kids f a).1 ∧ (al2 P kids f a).1 ≤ (P.length : Int)) ∧ ((al2 P kids f a).2.2 = true → (al2 P kids f a).1 < (P.length : Int) ∧ (al2 P kids f a).2.1 = acv P (al2 P kids f a).1)
 | 0,a,h0,h1,h2 =>⟨⟨Int.le_refl _,h2⟩,fun h =>by cases h⟩
 | f + 1,a,h0,h1,h2 =>by
  unfold al2
  split
  ·rename_i hlt
   split
   ·exact ⟨⟨Int.le_refl _,h2⟩,fun _ =>⟨hlt,rfl⟩⟩
   ·split
    ·exact ⟨⟨Int.le_refl _,h2⟩,fun _ =>⟨hlt,rfl⟩⟩
    ·have ih := al1 (P := P) (kids := kids) (f := f) (a := a + 1) (by omega) (by omega) (by omega)
     exact ⟨⟨by omega,ih.1.2⟩,ih.2⟩
  ·exact ⟨⟨Int.le_refl _,h2⟩,fun h =>by cases h⟩
theorem aiF {P : List Ins} {kids : List Int} {a : Int} (h0 : 0 ≤ a) (h2 : a ≤ (P.length : Int)) :
  (a ≤ (apH P kids a).1 ∧ (apH P kids a).1 ≤ (P.length : Int)) ∧ ((apH P kids a).2.2 = true → (apH P kids a).1 < (P.length : Int) ∧ (apH P kids a).2.1 = acv P (apH P kids a).1) := al1 h0 (by omega) h2
theorem anh {x : TkP} (h0 : 0 ≤ x.at_) (hn : x.prog.length ≤ 1000000) : aa3 x = some (((apH x.prog x.kids x.at_).2.1,(apH x.prog x.kids x.at_).2.2,()),({ x with at_ := (apH x.prog x.kids x.at_).1 },())) := by
 unfold aa3
 generalize hF : (fun (self3 : Ins × TkP × Unit → Option ((Ins × TkP × Unit) ⊕ ((Ins × Bool × Unit) × (TkP × Unit)))) (x1 : Ins × TkP × Unit) =>_) = F
 have run : ∀ (f k : Nat) (a : Int) (z : Ins),0 ≤ a → (x.prog.length : Int) + 1 - a ≤ f → f ≤ k →
   lpF F (k + 1) (z,{ x with at_ := a },()) = some (if (al2 x.prog x.kids f a).2.2 = true then .inr (((al2 x.prog x.kids f a).2.1,true,()),({ x with at_ := (al2 x.prog x.kids f a).1 },())) else .inl (z,{ x with at_ := (al2 x.prog x.kids f a).1 },())) ∧ ((al2 x.prog x.kids f a).2.2 = false → (al2 x.prog x.kids f a).2.1 = ⟨0,0,0⟩) := by
  intro f
  induction f with
  | zero =>
   intro k a z h1 h2 h3
   rw [lpS]
   subst hF
   refine ⟨?_,fun _ =>rfl⟩
   exact if_neg (show ¬ a < (x.prog.length : Int) by omega)
  | succ f ih =>
   intro k a z h1 h2 h3
   obtain ⟨k,rfl⟩ : ∃ k',k = k' + 1 := ⟨k - 1,by omega⟩
   rw [lpS]
   have ih' := ih k (a + 1) z (by omega) (by omega) (by omega)
   generalize lpF F (k + 1) = self at *
   subst hF
   unfold al2
   by_cases hlt : a < (x.prog.length : Int)
   ·have e1 : wi (a + 1) = a + 1 := aa7 (aab (by omega))
    simp only [hlt,h1,and_self,if_true,aci,abo,e1]
    by_cases o1 : (acv x.prog a).op = 1
    ·simp only [o1,if_true]
     exact ⟨rfl,fun h =>by cases h⟩
    ·simp only [o1,if_false]
     by_cases o2 : (acv x.prog a).op = 2
     ·simp only [o2,if_true,true_and]
      by_cases o3 : chV x.kids (acv x.prog a).a ≠ -1
      ·simp only [if_pos o3]
       exact ⟨rfl,fun h =>by cases h⟩
      ·simp only [if_neg o3]
       exact ih'
     ·simp only [o2,if_false,false_and]
      exact ih'
   ·simp only [if_neg hlt]
    exact ⟨rfl,fun _ =>by trivial⟩
 obtain ⟨r1,r2⟩ := run (x.prog.length + 1) 18446744073709551615 x.at_ ⟨0,0,0⟩ h0 (by omega) (by omega)
 have r1 : lpF F 18446744073709551616 (⟨0,0,0⟩,x,()) = _ := r1
 rw [r1]
 unfold apH
 cases hb : (al2 x.prog x.kids (x.prog.length + 1) x.at_).2.2 with
 | true =>rw [if_pos rfl]; rfl
 | false =>rw [if_neg (by decide),r2 hb]; rfl
def ayC (pa : Int → Int) (x : Int) : Nat → Int → Bool
 | 0,_ =>false
 | n + 1,t =>if pa t = -1 then false else if pa t = x then true else ayC pa x n (pa t)
end
section
open Go Go.RowKit
set_option maxRecDepth 3000
variable [Tb]
def viP (x : TkP) : Int × Int × Int × Int := (x.ph,x.lv,x.pa,x.wt)
structure SameV (p q : SyP) : Prop where
 t : q.tasks.map viP = p.tasks.map viP
 w : q.works.map (·.stack) = p.works.map (·.stack)
 c : q.c = p.c
structure PO (p : SyP) : Prop where
 tl : (p.tasks.length : Int) = p.c.tasks
 wl : (p.works.length : Int) = p.c.workers + 1
 stk : ∀ w,0 ≤ w ∧ w < (p.works.length : Int) → (aak p.works w).stack.length ≤ 1000000
 kid : ∀ t,0 ≤ t ∧ t < (p.tasks.length : Int) → (aaf p.tasks t).kids.length ≤ 1000000
 prg : ∀ t,0 ≤ t ∧ t < (p.tasks.length : Int) → (aaf p.tasks t).prog.length ≤ 1000000
 at0 : ∀ t,0 ≤ t ∧ t < (p.tasks.length : Int) → 0 ≤ (aaf p.tasks t).at_ ∧ (aaf p.tasks t).at_ ≤ ((aaf p.tasks t).prog.length : Int)
def PS (p : SyP) (e : Ev) (C : Prop) (p' : SyP) : Prop := ∃ b q,aah p e = some ((b,()),(q,())) ∧ (b = true → C ∧ q = p') ∧ (b = false → ¬ C ∧ SameV p q)
section
variable {p : SyP} {w t o l : Int}
theorem aly {α β : Type} {d : α} {f : α → β} {xs : List α} {i : Int} {x : α} (h : 0 ≤ i ∧ i < (xs.length : Int)) (e : f x = f (atL d xs i)) : (xs.set i.toNat x).map f = xs.map f := by
 rw [List.map_set,e,← List.map_set]
 exact congrArg _ (aqx h)
theorem akH {C : Prop} {p' q : SyP} (h : C) (e : q = p') : ∃ b q',some ((true,()),(q,())) = some ((b,()),(q',())) ∧ (b = true → C ∧ q' = p') ∧ (b = false → ¬ C ∧ SameV p q') := ⟨_,_,rfl,fun _ =>⟨h,e⟩,(fun h =>nomatch h)⟩
theorem afL {C : Prop} {p' q : SyP} (h : ¬ C) (e : SameV p q) : ∃ b q',some ((false,()),(q,())) = some ((b,()),(q',())) ∧ (b = true → C ∧ q' = p') ∧ (b = false → ¬ C ∧ SameV p q') := ⟨_,_,rfl,(fun h =>nomatch h),fun _ =>⟨h,e⟩⟩
theorem abJ : SameV p p := ⟨rfl,rfl,rfl⟩
theorem aqB {k : CtP} {n m : Int} : SameV p { p with queue := k,offers := n,known := m } := ⟨rfl,rfl,rfl⟩
theorem alA (ht : 0 ≤ t ∧ t < (p.tasks.length : Int)) {x : TkP} (h : viP x = viP (aaf p.tasks t)) : SameV p { p with tasks := p.tasks.set t.toNat x } := ⟨aly (d := (dfR 70 : TkP)) ht h,rfl,rfl⟩
theorem auV (hw : 0 ≤ w ∧ w < (p.works.length : Int)) {x : WkP} (h : x.stack = (aak p.works w).stack) : SameV p { p with works := p.works.set w.toNat x } := ⟨rfl,aly (d := (dfR 71 : WkP)) (f := fun (x : WkP) =>x.stack) hw h,rfl⟩
theorem aAv (hP : PO p) (hw : 0 ≤ w ∧ w < (p.works.length : Int)) (ht : 0 ≤ t ∧ t < (p.tasks.length : Int)) (hr : aaj p ⟨12,w,t,o,l⟩ = some ((true,()),(p,()))) (hs : (aak p.works w).sleeps = false) :
  PS p ⟨12,w,t,o,l⟩ (1 ≤ p.c.age ∧ avb (aak p.works w).stack (aak p.works w).walks = true ∧ (aaf p.tasks t).ph ≠ 0 ∧ l = wi ((aaf p.tasks t).lv + 1)) { p with tasks := p.tasks.set t.toNat { aaf p.tasks t with lv := l },works := p.works.set w.toNat { aak p.works w with last := ⟨12,w,t,o,l⟩ } } := by
 have hk := hP.stk w hw
 unfold PS aah aal
 rw [hr]
 simp only [abo,Int.reduceEq,if_true,if_false,hw,ht,and_self,abi ht,abe hw,List.set_set,List.length_set,ag6 ht,ahb hw,aa4,ne_eq,not_true_eq_false,not_false_eq_true,true_and,and_true,decide_true,decide_false,reduceCtorEq,abb,aaP,acV,acU,Bool.not_true,Bool.false_eq_true,Bool.not_eq_true',hs]
 repeat' split
 all_goals first
  | exact akH (by first | exact True.intro | (simp_all; done) | (simp_all; intros; omega)) rfl
  | exact afL (by first | exact True.intro | (simp_all; done) | (simp_all; intros; omega)) (abJ)
theorem aAt (hP : PO p) (hw : 0 ≤ w ∧ w < (p.works.length : Int)) (ht : 0 ≤ t ∧ t < (p.tasks.length : Int)) (hr : aaj p ⟨14,w,t,o,l⟩ = some ((true,()),(p,()))) (hs : (aak p.works w).sleeps = false) :
  PS p ⟨14,w,t,o,l⟩ (avb (aak p.works w).stack (aak p.works w).walks = true ∧ o ≠ w ∧ (aaf p.tasks t).ph ≠ 0) { p with works := p.works.set w.toNat { aak p.works w with last := ⟨14,w,t,o,l⟩ } } := by
 have hk := hP.stk w hw
 unfold PS aah aal
 rw [hr]
 simp only [abo,Int.reduceEq,if_true,if_false,hw,ht,and_self,abi ht,abe hw,List.set_set,List.length_set,ag6 ht,ahb hw,aa4,ne_eq,not_true_eq_false,not_false_eq_true,true_and,and_true,decide_true,decide_false,reduceCtorEq,abb,aaP,acV,acU,Bool.not_true,Bool.false_eq_true,Bool.not_eq_true',hs]
 repeat' split
 all_goals first
  | exact akH (by first | exact True.intro | (simp_all; done) | (simp_all; intros; omega)) rfl
  | exact afL (by first | exact True.intro | (simp_all; done) | (simp_all; intros; omega)) (abJ)
theorem aAs (hP : PO p) (hw : 0 ≤ w ∧ w < (p.works.length : Int)) (ht : 0 ≤ t ∧ t < (p.tasks.length : Int)) (hr : aaj p ⟨15,w,t,o,l⟩ = some ((true,()),(p,()))) (hs : (aak p.works w).sleeps = false) :
  PS p ⟨15,w,t,o,l⟩ ((aaf p.tasks t).ph ≠ 0 ∧ (aaf p.tasks t).ph ≠ 1) { p with works := p.works.set w.toNat { aak p.works w with last := ⟨15,w,t,o,l⟩ } } := by
 have hk := hP.stk w hw
 unfold PS aah aal
 rw [hr]
 simp only [abo,Int.reduceEq,if_true,if_false,hw,ht,and_self,abi ht,abe hw,List.set_set,List.length_set,ag6 ht,ahb hw,aa4,ne_eq,not_true_eq_false,not_false_eq_true,true_and,and_true,decide_true,decide_false,reduceCtorEq,abb,aaP,acV,acU,Bool.not_true,Bool.false_eq_true,Bool.not_eq_true',hs]
 repeat' split
 all_goals first
  | exact akH (by first | exact True.intro | (simp_all; done) | (simp_all; intros; omega)) rfl
  | exact afL (by first | exact True.intro | (simp_all; done) | (simp_all; intros; omega)) (abJ)
theorem aAr (hP : PO p) (hw : 0 ≤ w ∧ w < (p.works.length : Int)) (ht : 0 ≤ t ∧ t < (p.tasks.length : Int)) (hr : aaj p ⟨16,w,t,o,l⟩ = some ((true,()),(p,()))) (hs : (aak p.works w).sleeps = false) :
  PS p ⟨16,w,t,o,l⟩ (avb (aak p.works w).stack (aak p.works w).walks = true) { p with works := p.works.set w.toNat { aak p.works w with sleeps := true,last := ⟨16,w,t,o,l⟩ } } := by
 have hk := hP.stk w hw
 unfold PS aah aal
 rw [hr]
 simp only [abo,Int.reduceEq,if_true,if_false,hw,ht,and_self,abi ht,abe hw,List.set_set,List.length_set,ag6 ht,ahb hw,aa4,ne_eq,not_true_eq_false,not_false_eq_true,true_and,and_true,decide_true,decide_false,reduceCtorEq,abb,aaP,acV,acU,Bool.not_true,Bool.false_eq_true,Bool.not_eq_true',hs]
 repeat' split
 all_goals first
  | exact akH (by first | exact True.intro | (simp_all; done) | (simp_all; intros; omega)) (by simp_all)
  | exact afL (by first | exact True.intro | (simp_all; done) | (simp_all; intros; omega)) (auV hw rfl)
theorem aAq (hP : PO p) (hw : 0 ≤ w ∧ w < (p.works.length : Int)) (ht : 0 ≤ t ∧ t < (p.tasks.length : Int)) (hr : aaj p ⟨17,w,t,o,l⟩ = some ((true,()),(p,()))) (hs : (aak p.works w).sleeps = true) :
  PS p ⟨17,w,t,o,l⟩ (o = 1 ∨ o = 2) { p with works := p.works.set w.toNat { aak p.works w with sleeps := false,last := ⟨17,w,t,o,l⟩ } } := by
 have hk := hP.stk w hw
 unfold PS aah aal
 rw [hr]
 simp only [abo,Int.reduceEq,if_true,if_false,hw,ht,and_self,abi ht,abe hw,List.set_set,List.length_set,ag6 ht,ahb hw,aa4,ne_eq,not_true_eq_false,not_false_eq_true,true_and,and_true,decide_true,decide_false,reduceCtorEq,abb,aaP,acV,acU,Bool.not_true,Bool.false_eq_true,Bool.not_eq_true',hs]
 repeat' split
 all_goals first
  | exact akH (by omega) (by simp_all)
  | exact afL (by omega) (auV hw rfl)
theorem az5 (hP : PO p) (hw : 0 ≤ w ∧ w < (p.works.length : Int)) (ht : 0 ≤ t ∧ t < (p.tasks.length : Int)) (hr : aaj p ⟨18,w,t,o,l⟩ = some ((true,()),(p,()))) (hs : (aak p.works w).sleeps = false) :
  PS p ⟨18,w,t,o,l⟩ (True) { p with works := p.works.set w.toNat { aak p.works w with last := ⟨18,w,t,o,l⟩ } } := by
 have hk := hP.stk w hw
 unfold PS aah aal
 rw [hr]
 simp only [abo,Int.reduceEq,if_true,if_false,hw,ht,and_self,abi ht,abe hw,List.set_set,List.length_set,ag6 ht,ahb hw,aa4,ne_eq,not_true_eq_false,not_false_eq_true,true_and,and_true,decide_true,decide_false,reduceCtorEq,abb,aaP,acV,acU,Bool.not_true,Bool.false_eq_true,Bool.not_eq_true',hs]
 exact ⟨_,_,rfl,(fun _ =>rfl),(fun h =>nomatch h)⟩
theorem aAp (hP : PO p) (hw : 0 ≤ w ∧ w < (p.works.length : Int)) (ht : 0 ≤ t ∧ t < (p.tasks.length : Int)) (hr : aaj p ⟨19,w,t,o,l⟩ = some ((true,()),(p,()))) (hs : (aak p.works w).sleeps = false) :
  PS p ⟨19,w,t,o,l⟩ ((aaf p.tasks t).ph ≠ 0) { p with works := p.works.set w.toNat { aak p.works w with last := ⟨19,w,t,o,l⟩ } } := by
 have hk := hP.stk w hw
 unfold PS aah aal
 rw [hr]
 simp only [abo,Int.reduceEq,if_true,if_false,hw,ht,and_self,abi ht,abe hw,List.set_set,List.length_set,ag6 ht,ahb hw,aa4,ne_eq,not_true_eq_false,not_false_eq_true,true_and,and_true,decide_true,decide_false,reduceCtorEq,abb,aaP,acV,acU,Bool.not_true,Bool.false_eq_true,Bool.not_eq_true',hs]
 repeat' split
 all_goals first
  | exact akH (by first | exact True.intro | (simp_all; done) | (simp_all; intros; omega)) rfl
  | exact afL (by first | exact True.intro | (simp_all; done) | (simp_all; intros; omega)) (abJ)
theorem pk7 (hP : PO p) (hw : 0 ≤ w ∧ w < (p.works.length : Int)) (ht : 0 ≤ t ∧ t < (p.tasks.length : Int)) (hr : aaj p ⟨7,w,t,o,l⟩ = some ((true,()),(p,()))) (hs : (aak p.works w).sleeps = false) :
  PS p ⟨7,w,t,o,l⟩ ((aak p.works w).walks = true ∧ (aak p.works w).walk = t ∧ (aak p.works w).low ≤ l ∧ l ≤ (aaf p.tasks t).lv ∧ ((aak p.works w).up ≠ -1 → (aak p.works w).up = l)) { p with works := p.works.set w.toNat { aak p.works w with walks := false,last := ⟨7,w,t,o,l⟩ } } := by
 have hk := hP.stk w hw
 unfold PS aah aal
 rw [hr]
 simp only [abo,Int.reduceEq,if_true,if_false,hw,ht,and_self,abi ht,abe hw,List.set_set,List.length_set,ag6 ht,ahb hw,aa4,ne_eq,not_true_eq_false,not_false_eq_true,true_and,and_true,decide_true,decide_false,reduceCtorEq,abb,aaP,acV,acU,Bool.not_true,Bool.false_eq_true,Bool.not_eq_true',hs]
 repeat' split
 all_goals first
  | exact akH (by first | exact True.intro | (simp_all; done) | (simp_all; intros; omega)) rfl
  | exact afL (by first | exact True.intro | (simp_all; done) | (simp_all; intros; omega)) (abJ)
theorem pk5 (hP : PO p) (hw : 0 ≤ w ∧ w < (p.works.length : Int)) (ht : 0 ≤ t ∧ t < (p.tasks.length : Int)) (hr : aaj p ⟨5,w,t,o,l⟩ = some ((true,()),(p,()))) (hs : (aak p.works w).sleeps = false) :
  PS p ⟨5,w,t,o,l⟩ ((aaf p.tasks t).ph = 1 ∧ ((avb (aak p.works w).stack (aak p.works w).walks = true) ∨ (aak p.works w).last.kind = 3 ∧ (aak p.works w).last.task = t)) { p with tasks := p.tasks.set t.toNat { aaf p.tasks t with ph := 2,wt := -1 },works := p.works.set w.toNat { aak p.works w with stack := (aak p.works w).stack ++ [t],last := ⟨5,w,t,o,l⟩ } } := by
 have hk := hP.stk w hw
 unfold PS aah aal
 rw [hr]
 have hk2 : (((aak p.works w).stack.length + ([t] : List Int).length : Nat) : Int) < 1000000000000 := by simp only [List.length_singleton]; omega
 simp only [abo,Int.reduceEq,if_true,if_false,hw,ht,and_self,abi ht,abe hw,List.set_set,List.length_set,ag6 ht,ahb hw,aa4,ne_eq,not_true_eq_false,not_false_eq_true,true_and,and_true,decide_true,decide_false,reduceCtorEq,abb,aaP,acV,acU,Bool.not_true,Bool.false_eq_true,Bool.not_eq_true',hs,hk2]
 repeat' split
 all_goals first
  | exact akH (by first | exact True.intro | (simp_all; done) | (simp_all; intros; omega)) rfl
  | exact afL (by first | exact True.intro | (simp_all; done) | (simp_all; intros; omega)) (abJ)
end
noncomputable def prT (x : TkP) : Int × Ins × Bool := apH x.prog x.kids x.at_
def ac9 (s : List Int) : List Int := s.take ((s.length : Int) - 1).toNat
section
variable {p : SyP} {w t o l : Int}
theorem al4 (hP : PO p) (ht : 0 ≤ t ∧ t < (p.tasks.length : Int)) : aa3 (aaf p.tasks t) = some (((prT (aaf p.tasks t)).2.1,(prT (aaf p.tasks t)).2.2,()),({ aaf p.tasks t with at_ := (prT (aaf p.tasks t)).1 },())) := anh (hP.at0 t ht).1 (hP.prg t ht)
theorem al5 {s : List Int} (h : ach s = t) (ht : 0 ≤ t) (hl : s.length ≤ 1000000) : wi ((s.length : Int) - 1) = (s.length : Int) - 1 ∧ 0 ≤ (s.length : Int) - 1 ∧ (s.length : Int) - 1 ≤ (s.length : Int) := by
 unfold ach at h
 have : ¬ (s.length : Int) = 0 := fun e =>by rw [if_pos e] at h; omega
 exact ⟨aa7 (aab (by omega)),by omega,by omega⟩
theorem au0 (ht : 0 ≤ t ∧ t < (p.tasks.length : Int)) (ho : 0 ≤ o ∧ o < (p.tasks.length : Int)) {x : TkP} (h : x.ph = (aaf p.tasks t).ph) : (aaf (p.tasks.set t.toNat x) o).ph = (aaf p.tasks o).ph := by
 by_cases e : t = o
 ·subst e; rw [ag6 ht]; exact h
 ·exact congrArg TkP.ph (aoZ ht.1 ho.1 e)
theorem aAx (hP : PO p) (hw : 0 ≤ w ∧ w < (p.works.length : Int)) (ht : 0 ≤ t ∧ t < (p.tasks.length : Int)) (hr : aaj p ⟨10,w,t,o,l⟩ = some ((true,()),(p,()))) (hs : (aak p.works w).sleeps = false) :
  PS p ⟨10,w,t,o,l⟩ (ach (aak p.works w).stack = t ∧ (prT (aaf p.tasks t)).2.2 = false) { p with tasks := p.tasks.set t.toNat { aaf p.tasks t with at_ := (prT (aaf p.tasks t)).1,ph := 4 },works := p.works.set w.toNat { aak p.works w with stack := ac9 (aak p.works w).stack,last := ⟨10,w,t,o,l⟩ } } := by
 have hk := hP.stk w hw
 have hpr := al4 hP ht
 have hkk := hP.kid t ht
 unfold PS aah aal
 rw [hr]
 by_cases htp : ach (aak p.works w).stack = t
 ·obtain ⟨q1,q2,q3⟩ := al5 htp ht.1 hk
  have hn1 : (((aaf p.tasks t).kids.length + ([(-1)] : List Int).length : Nat) : Int) < 1000000000000 := by simp only [List.length_singleton]; omega
  have hn2 : (((aaf p.tasks t).kids.length + ([t] : List Int).length : Nat) : Int) < 1000000000000 := by simp only [List.length_singleton]; omega
  try unfold ac9
  generalize hv : prT (aaf p.tasks t) = v at *
  obtain ⟨j,i,b⟩ := v
  simp only [abo,Int.reduceEq,if_true,if_false,hw,ht,and_self,abi,abe,List.set_set,List.length_set,ag6,ahb,aa4,ne_eq,not_true_eq_false,not_false_eq_true,true_and,and_true,decide_true,decide_false,reduceCtorEq,acT,abb,aaP,acV,acU,Bool.not_true,Bool.false_eq_true,Bool.not_eq_true',hs,adz hk,aci,htp,hpr,q1,q2,q3,hn1,hn2]
  repeat' split
  all_goals first
   | exact akH (by first | exact True.intro | (simp_all; done) | (simp_all; intros; omega)) rfl
   | exact afL (by first | exact True.intro | (simp_all; done) | (simp_all; intros; omega)) (alA ht rfl)
 ·simp only [abo,Int.reduceEq,if_true,if_false,hw,ht,and_self,abi,abe,List.set_set,List.length_set,ag6,ahb,aa4,ne_eq,not_true_eq_false,not_false_eq_true,true_and,and_true,decide_true,decide_false,reduceCtorEq,acT,abb,aaP,acV,acU,Bool.not_true,Bool.false_eq_true,Bool.not_eq_true',hs,adz hk,aci,htp]
  exact afL (fun h =>h.1) abJ
theorem pk8 (hP : PO p) (hw : 0 ≤ w ∧ w < (p.works.length : Int)) (ht : 0 ≤ t ∧ t < (p.tasks.length : Int)) (ho : 0 ≤ o ∧ o < (p.tasks.length : Int)) (hr : aaj p ⟨8,w,t,o,l⟩ = some ((true,()),(p,()))) (hs : (aak p.works w).sleeps = false) :
  PS p ⟨8,w,t,o,l⟩ (ach (aak p.works w).stack = t ∧ (prT (aaf p.tasks t)).2.2 = true ∧ (prT (aaf p.tasks t)).2.1.op = 2 ∧ chV (aaf p.tasks t).kids (prT (aaf p.tasks t)).2.1.a = o ∧ (aaf p.tasks o).ph = 4) { p with tasks := p.tasks.set t.toNat { aaf p.tasks t with at_ := wi ((prT (aaf p.tasks t)).1 + 1) },works := p.works.set w.toNat { aak p.works w with last := ⟨8,w,t,o,l⟩ } } := by
 have hk := hP.stk w hw
 have hpr := al4 hP ht
 have hkk := hP.kid t ht
 unfold PS aah aal
 rw [hr]
 by_cases htp : ach (aak p.works w).stack = t
 ·obtain ⟨q1,q2,q3⟩ := al5 htp ht.1 hk
  have hn1 : (((aaf p.tasks t).kids.length + ([(-1)] : List Int).length : Nat) : Int) < 1000000000000 := by simp only [List.length_singleton]; omega
  have hn2 : (((aaf p.tasks t).kids.length + ([t] : List Int).length : Nat) : Int) < 1000000000000 := by simp only [List.length_singleton]; omega
  try unfold ac9
  generalize hv : prT (aaf p.tasks t) = v at *
  obtain ⟨j,i,b⟩ := v
  simp only [abo,Int.reduceEq,if_true,if_false,hw,ht,and_self,abi,abe,List.set_set,List.length_set,ag6,ahb,aa4,ne_eq,not_true_eq_false,not_false_eq_true,true_and,and_true,decide_true,decide_false,reduceCtorEq,abb,aaP,acV,acU,Bool.not_true,Bool.false_eq_true,Bool.not_eq_true',hs,adz hk,aci,htp,hpr,q1,q2,q3,hn1,hn2,ho,au0 ht ho]
  repeat' split
  all_goals first
   | exact akH (by first | exact True.intro | (simp_all; done) | (simp_all; intros; omega)) rfl
   | exact afL (by first | exact True.intro | (simp_all; done) | (simp_all; intros; omega)) (alA ht rfl)
 ·simp only [abo,Int.reduceEq,if_true,if_false,hw,ht,and_self,abi,abe,List.set_set,List.length_set,ag6,ahb,aa4,ne_eq,not_true_eq_false,not_false_eq_true,true_and,and_true,decide_true,decide_false,reduceCtorEq,abb,aaP,acV,acU,Bool.not_true,Bool.false_eq_true,Bool.not_eq_true',hs,adz hk,aci,htp,ho]
  exact afL (fun h =>h.1) abJ
theorem pk6 (hP : PO p) (hw : 0 ≤ w ∧ w < (p.works.length : Int)) (ht : 0 ≤ t ∧ t < (p.tasks.length : Int)) (ho : 0 ≤ o ∧ o < (p.tasks.length : Int)) (hr : aaj p ⟨6,w,t,o,l⟩ = some ((true,()),(p,()))) (hs : (aak p.works w).sleeps = false) :
  PS p ⟨6,w,t,o,l⟩ (ach (aak p.works w).stack = t ∧ (prT (aaf p.tasks t)).2.2 = true ∧ (prT (aaf p.tasks t)).2.1.op = 2 ∧ chV (aaf p.tasks t).kids (prT (aaf p.tasks t)).2.1.a = o ∧ (aaf p.tasks o).ph ≠ 4) { p with tasks := p.tasks.set t.toNat { aaf p.tasks t with at_ := wi ((prT (aaf p.tasks t)).1 + 1),ph := 3,wt := o },works := p.works.set w.toNat ⟨ac9 (aak p.works w).stack,true,t,(aaf p.tasks t).lv,-1,(aak p.works w).sleeps,⟨6,w,t,o,l⟩⟩ } := by
 have hk := hP.stk w hw
 have hpr := al4 hP ht
 have hkk := hP.kid t ht
 unfold PS aah aal
 rw [hr]
 by_cases htp : ach (aak p.works w).stack = t
 ·obtain ⟨q1,q2,q3⟩ := al5 htp ht.1 hk
  have hn1 : (((aaf p.tasks t).kids.length + ([(-1)] : List Int).length : Nat) : Int) < 1000000000000 := by simp only [List.length_singleton]; omega
  have hn2 : (((aaf p.tasks t).kids.length + ([t] : List Int).length : Nat) : Int) < 1000000000000 := by simp only [List.length_singleton]; omega
  try unfold ac9
  generalize hv : prT (aaf p.tasks t) = v at *
  obtain ⟨j,i,b⟩ := v
  simp only [abo,Int.reduceEq,if_true,if_false,hw,ht,and_self,abi,abe,List.set_set,List.length_set,ag6,ahb,aa4,ne_eq,not_true_eq_false,not_false_eq_true,true_and,and_true,decide_true,decide_false,reduceCtorEq,abb,aaP,acV,acU,Bool.not_true,Bool.false_eq_true,Bool.not_eq_true',hs,adz hk,aci,htp,hpr,q1,q2,q3,hn1,hn2,ho,au0 ht ho]
  repeat' split
  all_goals first
   | exact akH (by first | exact True.intro | (simp_all; done) | (simp_all; intros; omega)) rfl
   | exact afL (by first | exact True.intro | (simp_all; done) | (simp_all; intros; omega)) (alA ht rfl)
 ·simp only [abo,Int.reduceEq,if_true,if_false,hw,ht,and_self,abi,abe,List.set_set,List.length_set,ag6,ahb,aa4,ne_eq,not_true_eq_false,not_false_eq_true,true_and,and_true,decide_true,decide_false,reduceCtorEq,abb,aaP,acV,acU,Bool.not_true,Bool.false_eq_true,Bool.not_eq_true',hs,adz hk,aci,htp,ho]
  exact afL (fun h =>h.1) abJ
theorem pk4 (hP : PO p) (hw : 0 ≤ w ∧ w < (p.works.length : Int)) (ht : 0 ≤ t ∧ t < (p.tasks.length : Int)) (hr : aaj p ⟨4,w,t,o,l⟩ = some ((true,()),(p,()))) (hs : (aak p.works w).sleeps = false) :
  PS p ⟨4,w,t,o,l⟩ (ach (aak p.works w).stack = t ∧ wi (p.c.tasks - p.c.workers) ≤ p.known ∧ (prT (aaf p.tasks t)).2.2 = true ∧ (prT (aaf p.tasks t)).2.1.op = 1) { p with tasks := p.tasks.set t.toNat { aaf p.tasks t with at_ := wi ((prT (aaf p.tasks t)).1 + 1),kids := (aaf p.tasks t).kids ++ [-1] },works := p.works.set w.toNat { aak p.works w with last := ⟨4,w,t,o,l⟩ } } := by
 have hk := hP.stk w hw
 have hpr := al4 hP ht
 have hkk := hP.kid t ht
 unfold PS aah aal
 rw [hr]
 by_cases htp : ach (aak p.works w).stack = t
 ·obtain ⟨q1,q2,q3⟩ := al5 htp ht.1 hk
  have hn1 : (((aaf p.tasks t).kids.length + ([(-1)] : List Int).length : Nat) : Int) < 1000000000000 := by simp only [List.length_singleton]; omega
  have hn2 : (((aaf p.tasks t).kids.length + ([t] : List Int).length : Nat) : Int) < 1000000000000 := by simp only [List.length_singleton]; omega
  try unfold ac9
  generalize hv : prT (aaf p.tasks t) = v at *
  obtain ⟨j,i,b⟩ := v
  simp only [abo,Int.reduceEq,if_true,if_false,hw,ht,and_self,abi,abe,List.set_set,List.length_set,ag6,ahb,aa4,ne_eq,not_true_eq_false,not_false_eq_true,true_and,and_true,decide_true,decide_false,reduceCtorEq,abb,aaP,acV,acU,Bool.not_true,Bool.false_eq_true,Bool.not_eq_true',hs,adz hk,aci,htp,hpr,q1,q2,q3,hn1,hn2]
  repeat' split
  all_goals first
   | exact akH (by first | exact True.intro | (simp_all; done) | (simp_all; intros; omega)) rfl
   | exact afL (by first | exact True.intro | (simp_all; done) | (simp_all; intros; omega)) (abJ)
   | exact afL (by first | exact True.intro | (simp_all; done) | (simp_all; intros; omega)) (alA ht rfl)
 ·simp only [abo,Int.reduceEq,if_true,if_false,hw,ht,and_self,abi,abe,List.set_set,List.length_set,ag6,ahb,aa4,ne_eq,not_true_eq_false,not_false_eq_true,true_and,and_true,decide_true,decide_false,reduceCtorEq,abb,aaP,acV,acU,Bool.not_true,Bool.false_eq_true,Bool.not_eq_true',hs,adz hk,aci,htp]
  exact afL (fun h =>h.1) abJ
theorem pk3 (hP : PO p) (hw : 0 ≤ w ∧ w < (p.works.length : Int)) (ht : 0 ≤ t ∧ t < (p.tasks.length : Int)) (ho : 0 ≤ o ∧ o < (p.tasks.length : Int)) (hi : ach (aak p.works w).stack = o → (prT (aaf p.tasks o)).2.2 = true → (prT (aaf p.tasks o)).2.1.op = 1 → 0 ≤ (prT (aaf p.tasks o)).2.1.a ∧ (prT (aaf p.tasks o)).2.1.a < (p.c.progs.length : Int)) (hr : aaj p ⟨3,w,t,o,l⟩ = some ((true,()),(p,()))) (hs : (aak p.works w).sleeps = false) :
  PS p ⟨3,w,t,o,l⟩ (ach (aak p.works w).stack = o ∧ (aaf p.tasks t).ph = 0 ∧ (prT (aaf p.tasks o)).2.2 = true ∧ (prT (aaf p.tasks o)).2.1.op = 1 ∧ (prT (aaf p.tasks o)).2.1.b = l) { p with tasks := (p.tasks.set o.toNat { aaf p.tasks o with at_ := wi ((prT (aaf p.tasks o)).1 + 1),kids := (aaf p.tasks o).kids ++ [t] }).set t.toNat ⟨1,l,o,atL [] p.c.progs (prT (aaf p.tasks o)).2.1.a,0,[],-1⟩,works := p.works.set w.toNat { aak p.works w with last := ⟨3,w,t,o,l⟩ },known := wi (p.known + 1) } := by
 have hk := hP.stk w hw
 have hpr := al4 hP ho
 have hkk := hP.kid o ho
 unfold PS aah aal
 rw [hr]
 by_cases htp : ach (aak p.works w).stack = o
 ·obtain ⟨q1,q2,q3⟩ := al5 htp ho.1 hk
  have hn1 : (((aaf p.tasks o).kids.length + ([(-1)] : List Int).length : Nat) : Int) < 1000000000000 := by simp only [List.length_singleton]; omega
  have hn2 : (((aaf p.tasks o).kids.length + ([t] : List Int).length : Nat) : Int) < 1000000000000 := by simp only [List.length_singleton]; omega
  try unfold ac9
  generalize hv : prT (aaf p.tasks o) = v at *
  obtain ⟨j,i,b⟩ := v
  simp only [abo,Int.reduceEq,if_true,if_false,hw,ht,and_self,abi,abe,List.set_set,List.length_set,ag6,ahb,aa4,ne_eq,not_true_eq_false,not_false_eq_true,true_and,and_true,decide_true,decide_false,reduceCtorEq,abb,aaP,acV,acU,Bool.not_true,Bool.false_eq_true,Bool.not_eq_true',hs,adz hk,aci,htp,hpr,q1,q2,q3,hn1,hn2,ho,hi]
  repeat' split
  all_goals first
   | exact akH (by first | exact True.intro | (simp_all; done) | (simp_all; intros; omega)) rfl
   | exact afL (by first | exact True.intro | (simp_all; done) | (simp_all; intros; omega)) (abJ)
   | exact afL (by first | exact True.intro | (simp_all; done) | (simp_all; intros; omega)) (alA ho rfl)
   | (exfalso; rename_i h1 h2 h3; exact h3 (by simp_all))
 ·simp only [abo,Int.reduceEq,if_true,if_false,hw,ht,and_self,abi,abe,List.set_set,List.length_set,ag6,ahb,aa4,ne_eq,not_true_eq_false,not_false_eq_true,true_and,and_true,decide_true,decide_false,reduceCtorEq,abb,aaP,acV,acU,Bool.not_true,Bool.false_eq_true,Bool.not_eq_true',hs,adz hk,aci,htp,ho]
  exact afL (fun h =>h.1) abJ
theorem pk9 (hP : PO p) (hw : 0 ≤ w ∧ w < (p.works.length : Int)) (ht : 0 ≤ t ∧ t < (p.tasks.length : Int)) (hwt : (aaf p.tasks t).ph = 3 → 0 ≤ (aaf p.tasks t).wt ∧ (aaf p.tasks t).wt < (p.tasks.length : Int)) (hr : aaj p ⟨9,w,t,o,l⟩ = some ((true,()),(p,()))) (hs : (aak p.works w).sleeps = false) :
  PS p ⟨9,w,t,o,l⟩ ((aaf p.tasks t).ph = 3 ∧ (aaf p.tasks (aaf p.tasks t).wt).ph = 4 ∧ ((avb (aak p.works w).stack (aak p.works w).walks = true) ∨ (aak p.works w).last.kind = 10 ∧ (aak p.works w).last.task = (aaf p.tasks t).wt)) { p with tasks := p.tasks.set t.toNat { aaf p.tasks t with ph := 2,wt := -1 },works := p.works.set w.toNat { aak p.works w with stack := (aak p.works w).stack ++ [t],last := ⟨9,w,t,o,l⟩ } } := by
 have hk := hP.stk w hw
 unfold PS aah aal
 rw [hr]
 have hk2 : (((aak p.works w).stack.length + ([t] : List Int).length : Nat) : Int) < 1000000000000 := by simp only [List.length_singleton]; omega
 by_cases h3 : (aaf p.tasks t).ph = 3
 rotate_left
 ·simp only [abo,Int.reduceEq,if_true,if_false,hw,ht,and_self,abi,abe,List.set_set,List.length_set,ag6,ahb,ne_eq,not_true_eq_false,not_false_eq_true,true_and,and_true,decide_true,decide_false,reduceCtorEq,abb,aaP,acV,acU,Bool.not_true,Bool.false_eq_true,Bool.not_eq_true',hs,h3]
  exact ⟨_,_,rfl,(fun h =>nomatch h),fun _ =>⟨(by simp),abJ⟩⟩
 have hwt := hwt h3
 simp only [abo,Int.reduceEq,if_true,if_false,hw,ht,and_self,abi,abe,List.set_set,List.length_set,ag6,ahb,aa4,ne_eq,not_true_eq_false,not_false_eq_true,true_and,and_true,decide_true,decide_false,reduceCtorEq,abb,aaP,acV,acU,Bool.not_true,Bool.false_eq_true,Bool.not_eq_true',hs,adz hk,aci,hk2,hwt,h3]
 repeat' split
 all_goals first
  | exact akH (by first | exact True.intro | (simp_all; done) | (simp_all; intros; omega)) rfl
  | exact afL (by first | exact True.intro | (simp_all; done) | (simp_all; intros; omega)) (abJ)
end
end
section
open Go Go.RowKit
set_option maxRecDepth 1000000
variable [Tb]
section
variable {a b d : Int}
theorem au5 : agY a = some ((false,()),()) := by
 unfold agY
 rw [decide_eq_false (fun h =>h rfl)]
def azU (a b : Int) : Int := if a < b then -1 else if b < a then 1 else 0
theorem aw0 : adw a b = some ((azU a b,()),()) := by
 unfold adw azU
 rw [au5,au5,abo,abo,if_neg (by decide),if_neg (by decide)]
 split
 ·rfl
 ·split <;> rfl
theorem auF : auG [a,b,d] = some ((if a ≠ 0 then a else if b ≠ 0 then b else d,()),()) := by
 unfold auG
 generalize hF : (fun (self3 : Int × Unit → Option ((Int × Unit) ⊕ ((Int × Unit) × Unit))) (x1 : Int × Unit) =>_) = F
 have s3 : ∀ k,lpF F (k + 1) (3,()) = some (.inl (3,())) := fun k =>by rw [lpS]; subst hF; rfl
 have s2 : ∀ k,lpF F (k + 2) (2,()) = if d ≠ 0 then some (.inr ((d,()),())) else some (.inl (3,())) := fun k =>by
  have h := s3 k
  rw [lpS]
  generalize lpF F (k + 1) = self at *
  subst hF
  show (if d ≠ 0 then _ else self (wi (2 + 1),())) = _
  rw [show wi (2 + 1) = 3 from rfl,h]; rfl
 have s1 : ∀ k,lpF F (k + 3) (1,()) = if b ≠ 0 then some (.inr ((b,()),())) else if d ≠ 0 then some (.inr ((d,()),())) else some (.inl (3,())) := fun k =>by
  have h := s2 k
  rw [lpS]
  generalize lpF F (k + 2) = self at *
  subst hF
  show (if b ≠ 0 then _ else self (wi (1 + 1),())) = _
  rw [show wi (1 + 1) = 2 from rfl,h]; rfl
 have s0 : ∀ k,lpF F (k + 4) (0,()) = if a ≠ 0 then some (.inr ((a,()),())) else if b ≠ 0 then some (.inr ((b,()),())) else if d ≠ 0 then some (.inr ((d,()),())) else some (.inl (3,())) := fun k =>by
  have h := s1 k
  rw [lpS]
  generalize lpF F (k + 3) = self at *
  subst hF
  show (if a ≠ 0 then _ else self (wi (0 + 1),())) = _
  rw [show wi (0 + 1) = 1 from rfl,h]; rfl
 have s := s0 18446744073709551612
 have s : lpF F 18446744073709551616 (0,()) = _ := s
 rw [s]
 by_cases h1 : a ≠ 0
 ·rw [if_pos h1,if_pos h1]; rfl
 ·rw [if_neg h1,if_neg h1]
  by_cases h2 : b ≠ 0
  ·rw [if_pos h2,if_pos h2]; rfl
  ·rw [if_neg h2,if_neg h2]
   by_cases h3 : d ≠ 0
   ·rw [if_pos h3]; rfl
   ·rw [if_neg h3]
    have : d = 0 := by omega
    rw [this]; rfl
theorem aAE {x y : KyV} (h : x.arrival < y.arrival) : ∃ v,acs x y = some ((v,()),()) ∧ (v < 0 ↔ x.deadline ≤ y.deadline) := by
 unfold acs
 simp only [aw0,abo,if_true,auF]
 refine ⟨_,rfl,?_⟩
 unfold azU
 repeat' split
 all_goals omega
end
theorem aAC {lo hi : Int} (h0 : 0 ≤ lo) (h1 : lo ≤ hi) (h2 : hi ≤ 1000000) : wi (Int.fdiv (wu (wi (lo + hi))) (2 ^ min (1 : Int).toNat IntKind.u64.bits)) = (lo + hi) / 2 := by
 have e2 : wi (lo + hi) = lo + hi := aa7 (aab (by omega))
 have e3 : wu (lo + hi) = lo + hi := az2 (by omega) (by omega)
 have e4 : ((2 : Int) ^ min (1 : Int).toNat IntKind.u64.bits) = 2 := rfl
 rw [e2,e3,e4,Int.fdiv_eq_ediv_of_nonneg _ (by decide)]
 exact aa7 (aab (by omega))
section
variable {q : CtP} {c : Cfg} {w t o l : Int}
theorem qP2 : aaE q c ⟨2,w,t,o,l⟩ = if l ≠ 1 then some ((true,()),(q,())) else some ((decide ((q.keys.length : Int) = c.heap),()),(q,())) := by
 unfold aaE
 rw [if_neg (show ¬ (2 : Int) = 1 by decide),if_neg (show ¬ (2 : Int) = 13 by decide),if_pos rfl]
theorem aAo : aaE q c ⟨13,w,t,o,l⟩ = if 0 < q.keys.length ∧ (ads q.keys 0).task = t then some ((true,()),(⟨q.keys.drop 1,q.count⟩,())) else some ((false,()),(q,())) := by
 unfold aaE
 rw [if_neg (show ¬ (13 : Int) = 1 by decide),if_pos rfl]
 by_cases h : (q.keys.length : Int) = 0
 ·rw [if_pos h,abo,if_pos rfl,if_neg (by omega)]
 ·rw [if_neg h,if_pos (by omega),abo]
  by_cases h2 : (ads q.keys 0).task = t
  ·rw [if_neg (by simp [h2]),if_pos ⟨by decide,by show (1 : Int) ≤ (q.keys.length : Int); omega⟩,if_pos ⟨by omega,h2⟩]; rfl
  ·rw [if_pos (by simp [h2]),if_neg (fun h =>h2 h.2)]
structure Srt (ks : List KyV) (n : Int) : Prop where
 s : ∀ i j : Nat,i < j → j < ks.length → leK (ads ks (i : Int)) (ads ks (j : Int))
 a : ∀ i : Nat,i < ks.length → (ads ks (i : Int)).arrival < n
theorem qP1 (ho : 0 ≤ o ∧ o < (c.subs.length : Int)) (hs : Srt q.keys q.count) (hl : q.keys.length ≤ 1000000) :
    (c.heap ≤ (q.keys.length : Int) → aaE q c ⟨1,w,t,o,l⟩ = some ((false,()),(q,()))) ∧
    ((q.keys.length : Int) < c.heap → ∃ i : Nat,i ≤ q.keys.length ∧ (∀ j : Nat,j < i → (ads q.keys (j : Int)).deadline ≤ (ac1 c.subs o).deadline) ∧ (∀ j : Nat,i ≤ j → j < q.keys.length → (ac1 c.subs o).deadline < (ads q.keys (j : Int)).deadline) ∧
      aaE q c ⟨1,w,t,o,l⟩ = some ((true,()),(⟨q.keys.take i ++ [⟨(ac1 c.subs o).deadline,q.count,t⟩] ++ q.keys.drop i,wi (q.count + 1)⟩,()))) := by
  have e0 : ∀ b,decide (c.heap ≤ (q.keys.length : Int)) = b → (if (⟨1,w,t,o,l⟩ : Ev).other < 0 then some (true,q,()) else if ((c.subs.length : Nat) : Int) ≤ (⟨1,w,t,o,l⟩ : Ev).other then some (true,q,()) else some (decide (c.heap ≤ ((q.keys.length : Nat) : Int)),q,())) = some (b,q,()) := fun b hb =>by
    rw [if_neg (by show ¬ o < 0; omega),if_neg (by show ¬ (c.subs.length : Int) ≤ o; omega),hb]
  refine ⟨fun h =>?_,fun h =>?_⟩
  · unfold aaE
    rw [if_pos rfl,e0 true (decide_eq_true h),abo,if_pos rfl]
  · unfold aaE
    rw [if_pos rfl,e0 false (decide_eq_false (by omega)),abo,if_neg (show ¬ false = true by decide)]
    dsimp only
    rw [if_pos ho,if_pos rfl,if_pos rfl,if_pos rfl,if_pos rfl]
    generalize hd : (ac1 c.subs o).deadline = D
    have hk : ∀ j : Nat,j < q.keys.length → ∃ v,acs (ads q.keys (j : Int)) ⟨D,q.count,t⟩ = some ((v,()),()) ∧ (v < 0 ↔ (ads q.keys (j : Int)).deadline ≤ D) := fun j hj =>aAE (hs.a j hj)
    have hg : aa0 (lpF (σ := Int × Int × Unit) (β := Int × Int × Unit) (fun self4 x2 =>
         if x2.1 < x2.2.1 then
          if 0 ≤ wi (Int.fdiv (wu (wi (x2.1 + x2.2.1))) (2 ^ min (1 : Int).toNat IntKind.u64.bits)) ∧ wi (Int.fdiv (wu (wi (x2.1 + x2.2.1))) (2 ^ min (1 : Int).toNat IntKind.u64.bits)) < ((q.keys.length : Nat) : Int) then
           (acs (ads q.keys (wi (Int.fdiv (wu (wi (x2.1 + x2.2.1))) (2 ^ min (1 : Int).toNat IntKind.u64.bits)))) (⟨D,q.count,t⟩ : KyV)).bind fun r5 =>
           if r5.1.1 < 0 then
            self4 (wi ((wi (Int.fdiv (wu (wi (x2.1 + x2.2.1))) (2 ^ min (1 : Int).toNat IntKind.u64.bits))) + 1),x2.2.1,())
           else
           self4 (x2.1,wi (Int.fdiv (wu (wi (x2.1 + x2.2.1))) (2 ^ min (1 : Int).toNat IntKind.u64.bits)),())
          else none
         else
         some (x2.1,x2.2.1,())
        ) 18446744073709551616 (0,((q.keys.length : Nat) : Int),())) fun z =>∃ i : Nat,z.1 = (i : Int) ∧ i ≤ q.keys.length ∧ (∀ j : Nat,j < i → (ads q.keys (j : Int)).deadline ≤ D) ∧ (∀ j : Nat,i ≤ j → j < q.keys.length → D < (ads q.keys (j : Int)).deadline) := by
      refine acl (fun x =>∃ i k : Nat,x.1 = (i : Int) ∧ x.2.1 = (k : Int) ∧ i ≤ k ∧ k ≤ q.keys.length ∧ (∀ j : Nat,j < i → (ads q.keys (j : Int)).deadline ≤ D) ∧ (∀ j : Nat,k ≤ j → j < q.keys.length → D < (ads q.keys (j : Int)).deadline)) (fun x =>(x.2.1 - x.1).toNat) (fun self x ⟨i,k,q1,q2,q3,q4,q5,q6⟩ ih =>?_) _ _ ⟨0,q.keys.length,rfl,rfl,Nat.zero_le _,Nat.le_refl _,fun j hj =>absurd hj (Nat.not_lt_zero _),fun j h1 h2 =>by omega⟩ (by show ((q.keys.length : Int) - 0).toNat < _; omega)
      obtain ⟨x1,x2,u⟩ := x
      obtain rfl : x1 = (i : Int) := q1
      obtain rfl : x2 = (k : Int) := q2
      refine aa0.ite (fun h1 =>?_) fun h1 =>.some_ ⟨i,rfl,by omega,q5,fun j h2 h3 =>q6 j (by have h1 : ¬ (i : Int) < (k : Int) := h1; omega) h3⟩
      have h1 : (i : Int) < (k : Int) := h1
      dsimp only
      rw [aAC (lo := (i : Int)) (hi := (k : Int)) (by omega) (by omega) (by omega)]
      obtain ⟨m,hm⟩ : ∃ m : Nat,((i : Int) + (k : Int)) / 2 = (m : Int) := ⟨(((i : Int) + (k : Int)) / 2).toNat,by omega⟩
      rw [hm]
      have m1 : i ≤ m ∧ m < k := by omega
      refine aa0.guard (by omega) fun _ =>?_
      obtain ⟨v,v1,v2⟩ := hk m (by omega)
      rw [v1,abo]
      have e1 : wi ((m : Int) + 1) = ((m + 1 : Nat) : Int) := aa7 (aab (by omega))
      refine aa0.ite (fun h2 =>?_) fun h2 =>?_
      · rw [e1]
        refine ih _ ⟨m + 1,k,rfl,rfl,by omega,q4,fun j hj =>?_,q6⟩ (by show ((k : Int) - ((m + 1 : Nat) : Int)).toNat < ((k : Int) - (i : Int)).toNat; omega)
        have h3 := v2.1 h2
        rcases Nat.lt_or_ge j m with h4 | h4
        · have := hs.s j m h4 (by omega)
          unfold leK at this; omega
        · obtain rfl : j = m := by omega
          exact h3
      · refine ih _ ⟨i,m,rfl,rfl,m1.1,by omega,q5,fun j h3 h4 =>?_⟩ (by show ((m : Int) - (i : Int)).toNat < ((k : Int) - (i : Int)).toNat; omega)
        have h5 : D < (ads q.keys (m : Int)).deadline := by
          have : ¬ (ads q.keys (m : Int)).deadline ≤ D := fun h =>h2 (v2.2 h)
          omega
        rcases Nat.lt_or_ge m j with h6 | h6
        · have := hs.s m j h6 h4
          unfold leK at this; omega
        · obtain rfl : j = m := by omega
          exact h5
    obtain ⟨⟨z1,z2,u⟩,hz,i,rfl,i1,i2,i3⟩ := hg
    refine ⟨i,i1,i2,i3,?_⟩
    rw [hz,abo]
    have e2 : afi q.keys (i : Int) [⟨D,q.count,t⟩] = some ((q.keys.take i ++ [⟨D,q.count,t⟩] ++ q.keys.drop i,()),()) := if_pos ⟨⟨by omega,hl⟩,rfl⟩
    by_cases h4 : (i : Int) < (q.keys.length : Int)
    · obtain ⟨v,v1,_⟩ := hk i (by omega)
      rw [if_pos h4,if_pos ⟨by omega,h4⟩,v1,abo,abo]
      rw [e2,abo]
    · rw [if_neg h4,abo,e2,abo]
end
end
section
open Go Go.RowKit
set_option maxRecDepth 3000
variable [Tb]
section
variable {p : SyP} {w t o l : Int}
theorem pk2 (hP : PO p) (hw : 0 ≤ w ∧ w < (p.works.length : Int)) (ht : 0 ≤ t ∧ t < (p.tasks.length : Int)) (hr : aaj p ⟨2,w,t,o,l⟩ = some ((true,()),(p,()))) (hs : (aak p.works w).sleeps = false) :
    PS p ⟨2,w,t,o,l⟩ (o = p.offers ∧ o < (p.c.subs.length : Int) ∧ (l = 1 ∧ (p.queue.keys.length : Int) = p.c.heap ∨ l = 2 ∧ (p.queue.keys.length : Int) < p.c.heap ∧ wi (p.c.tasks - p.c.workers) ≤ p.known)) { p with works := p.works.set w.toNat { aak p.works w with last := ⟨2,w,t,o,l⟩ },offers := wi (p.offers + 1) } := by
  have hk := hP.stk w hw
  unfold PS aah aal
  rw [hr]
  simp only [abo,Int.reduceEq,if_true,if_false,hw,ht,and_self,abi,abe,List.set_set,List.length_set,ag6,ahb,aa4,ne_eq,not_true_eq_false,not_false_eq_true,true_and,and_true,decide_true,decide_false,reduceCtorEq,abb,aaP,acV,acU,Bool.not_true,Bool.false_eq_true,Bool.not_eq_true',hs,qP2]
  repeat' split
  all_goals first
    | exact akH (by first | exact True.intro | (simp_all; done) | (simp_all; intros; omega)) rfl
    | exact afL (by first | exact True.intro | (simp_all; done) | (simp_all; intros; omega)) aqB
    | exact afL (by first | exact True.intro | (simp_all; done) | (simp_all; intros; omega)) abJ
    | (simp only [abo,decide_eq_false_iff_not]
       split
       · exact afL (by omega) abJ
       · exact akH (by omega) rfl)
theorem aAu (hP : PO p) (hw : 0 ≤ w ∧ w < (p.works.length : Int)) (ht : 0 ≤ t ∧ t < (p.tasks.length : Int)) (hr : aaj p ⟨13,w,t,o,l⟩ = some ((true,()),(p,()))) (hs : (aak p.works w).sleeps = false) :
  PS p ⟨13,w,t,o,l⟩ (avb (aak p.works w).stack (aak p.works w).walks = true ∧ 0 < p.queue.keys.length ∧ (ads p.queue.keys 0).task = t) { p with works := p.works.set w.toNat { aak p.works w with last := ⟨13,w,t,o,l⟩ },queue := ⟨p.queue.keys.drop 1,p.queue.count⟩ } := by
 have hk := hP.stk w hw
 unfold PS aah aal
 rw [hr]
 simp only [abo,Int.reduceEq,if_true,if_false,hw,ht,and_self,abi,abe,List.set_set,List.length_set,ag6,ahb,aa4,ne_eq,not_true_eq_false,not_false_eq_true,true_and,and_true,decide_true,decide_false,reduceCtorEq,abb,aaP,acV,acU,Bool.not_true,Bool.false_eq_true,Bool.not_eq_true',hs,aAo]
 by_cases hq : 0 < p.queue.keys.length ∧ (ads p.queue.keys 0).task = t
 ·rw [if_pos hq]
  simp only [abo,Bool.not_true,Bool.false_eq_true,if_false,hq,and_true]
  split
  ·exact akH (by assumption) rfl
  ·exact afL (by assumption) abJ
 ·rw [if_neg hq]
  simp only [abo,Bool.not_false,if_true]
  split
  ·exact afL (fun h =>hq h.2) abJ
  ·exact afL (fun h =>hq h.2) abJ
theorem at3 {α β : Type} {o : Option β} {g : α ⊕ β → Option β} (h1 : ∀ x,g (.inr x) = some x) : (Option.map Sum.inr o).bind g = o := by
 cases o with
 | none =>rfl
 | some x =>exact h1 x
theorem asj {β : Type} {ts : List TkP} {x : Int} {R : Option β} {rk : Int → Nat} (hr : ∀ i,0 ≤ i ∧ i < (ts.length : Int) → (aaf ts i).pa = -1 ∨ (0 ≤ (aaf ts i).pa ∧ (aaf ts i).pa < (ts.length : Int)) ∧ rk (aaf ts i).pa < rk i) :
  ∀ (n k : Nat) (t : Int),0 ≤ t ∧ t < (ts.length : Int) → rk t < n → rk t < k →
  lpF (σ := Int × Unit) (β := (Int × Unit) ⊕ β) (fun self x3 =>if ¬ x3.1 = -1 then (if x3.1 = x then Option.map Sum.inr R else if 0 ≤ x3.1 ∧ x3.1 < (ts.length : Int) then self ((aaf ts x3.1).pa,()) else none) else some (Sum.inl (x3.1,()))) k ((aaf ts t).pa,()) =
   if ayC (fun i =>(aaf ts i).pa) x n t = true then Option.map Sum.inr R else some (Sum.inl (-1,()))
 | 0,k,t,ht,hn,hk =>by omega
 | n + 1,0,t,ht,hn,hk =>by omega
 | n + 1,k + 1,t,ht,hn,hk =>by
  rw [lpS]
  unfold ayC
  dsimp only
  by_cases h1 : (aaf ts t).pa = -1
  ·rw [if_neg (fun h =>h h1),if_pos h1,if_neg (by decide),h1]
  ·rw [if_pos h1,if_neg h1]
   by_cases h2 : (aaf ts t).pa = x
   ·rw [if_pos h2,if_pos h2,if_pos rfl]
   ·rcases hr t ht with h3 | ⟨h3,h4⟩
    ·exact absurd h3 h1
    ·rw [if_neg h2,if_neg h2,if_pos h3]
     exact asj hr n k _ h3 (by omega) (by omega)
theorem aAw (hP : PO p) (hw : 0 ≤ w ∧ w < (p.works.length : Int)) (ht : 0 ≤ t ∧ t < (p.tasks.length : Int)) (hwk : (aak p.works w).walks = true → 0 ≤ (aak p.works w).walk ∧ (aak p.works w).walk < (p.tasks.length : Int)) {rk : Int → Nat} (hrk : ∀ i,0 ≤ i ∧ i < (p.tasks.length : Int) → (aaf p.tasks i).pa = -1 ∨ (0 ≤ (aaf p.tasks i).pa ∧ (aaf p.tasks i).pa < (p.tasks.length : Int)) ∧ rk (aaf p.tasks i).pa < rk i) (hrn : rk t < p.tasks.length) (hln : p.tasks.length ≤ 1000000) (hr : aaj p ⟨11,w,t,o,l⟩ = some ((true,()),(p,()))) (hs : (aak p.works w).sleeps = false) :
  PS p ⟨11,w,t,o,l⟩ ((aak p.works w).walks = true ∧ ayC (fun i =>(aaf p.tasks i).pa) (aak p.works w).walk p.tasks.length t = true ∧ (aaf p.tasks t).lv < l ∧ l ≤ (aaf p.tasks (aak p.works w).walk).lv ∧ ((aak p.works w).up ≠ -1 → (aak p.works w).up = l)) { p with tasks := p.tasks.set t.toNat { aaf p.tasks t with lv := l },works := p.works.set w.toNat { aak p.works w with up := l,last := ⟨11,w,t,o,l⟩ } } := by
 have hk := hP.stk w hw
 unfold PS aah aal
 rw [hr]
 by_cases h3 : (aak p.works w).walks = true
 rotate_left
 ·have h4 : (aak p.works w).walks = false := by simpa using h3
  simp only [abo,Int.reduceEq,if_true,if_false,hw,ht,and_self,abi,abe,ne_eq,not_true_eq_false,not_false_eq_true,true_and,and_true,decide_false,reduceCtorEq,abb,aaP,acV,acU,hs,h4,Bool.not_false,Bool.not_true,Bool.false_eq_true]
  exact ⟨_,_,rfl,(fun h =>nomatch h),fun _ =>⟨(by simp),abJ⟩⟩
 have hwk := hwk h3
 simp only [abo,Int.reduceEq,if_true,if_false,hw,ht,and_self,abi,abe,List.set_set,List.length_set,ag6,ahb,aa4,ne_eq,not_true_eq_false,not_false_eq_true,true_and,and_true,decide_true,decide_false,reduceCtorEq,abb,aaP,acV,acU,Bool.not_true,Bool.false_eq_true,Bool.not_eq_true',hs,h3,hwk]
 rw [asj hrk p.tasks.length 18446744073709551616 t ht hrn (by omega)]
 by_cases hd : ayC (fun i =>(aaf p.tasks i).pa) (aak p.works w).walk p.tasks.length t = true
 ·rw [if_pos hd,at3 (fun _ =>rfl)]
  simp only [hd,true_and]
  repeat' split
  all_goals first
   | exact akH (by omega) rfl
   | exact afL (by omega) abJ
 ·rw [if_neg hd]
  exact afL (fun h =>hd h.1) abJ
theorem pk1 (hP : PO p) (hw : 0 ≤ w ∧ w < (p.works.length : Int)) (ht : 0 ≤ t ∧ t < (p.tasks.length : Int)) (hof : 0 ≤ p.offers) (hsub : 0 ≤ o ∧ o < (p.c.subs.length : Int) → 0 ≤ (ac1 p.c.subs o).prog ∧ (ac1 p.c.subs o).prog < (p.c.progs.length : Int)) (hq : Srt p.queue.keys p.queue.count) (hql : p.queue.keys.length ≤ 1000000)
    (hr : aaj p ⟨1,w,t,o,l⟩ = some ((true,()),(p,()))) (hs : (aak p.works w).sleeps = false) :
    ∃ i : Nat,i ≤ p.queue.keys.length ∧ (o = p.offers ∧ o < (p.c.subs.length : Int) → (p.queue.keys.length : Int) < p.c.heap → (∀ j : Nat,j < i → (ads p.queue.keys (j : Int)).deadline ≤ (ac1 p.c.subs o).deadline) ∧ (∀ j : Nat,i ≤ j → j < p.queue.keys.length → (ac1 p.c.subs o).deadline < (ads p.queue.keys (j : Int)).deadline)) ∧
    PS p ⟨1,w,t,o,l⟩ (o = p.offers ∧ o < (p.c.subs.length : Int) ∧ l = (ac1 p.c.subs o).level ∧ (aaf p.tasks t).ph = 0 ∧ (p.queue.keys.length : Int) < p.c.heap)
     ⟨p.c,p.tasks.set t.toNat ⟨1,l,-1,atL [] p.c.progs (ac1 p.c.subs o).prog,0,[],-1⟩,p.works.set w.toNat { aak p.works w with last := ⟨1,w,t,o,l⟩ },wi (p.offers + 1),wi (p.known + 1),⟨p.queue.keys.take i ++ [⟨(ac1 p.c.subs o).deadline,p.queue.count,t⟩] ++ p.queue.keys.drop i,wi (p.queue.count + 1)⟩⟩ := by
  have hk := hP.stk w hw
  by_cases h1 : o = p.offers
  rotate_left
  · refine ⟨0,Nat.zero_le _,fun h =>absurd h.1 h1,?_⟩
    unfold PS aah aal
    rw [hr]
    simp only [abo,Int.reduceEq,if_true,if_false,hw,ht,and_self,abi,abe,List.set_set,List.length_set,ag6,ahb,aa4,ne_eq,not_true_eq_false,not_false_eq_true,true_and,and_true,decide_true,decide_false,reduceCtorEq,abb,aaP,acV,acU,Bool.not_true,Bool.false_eq_true,Bool.not_eq_true',hs,h1]
    exact ⟨_,_,rfl,(fun h =>nomatch h),fun _ =>⟨(by simp),abJ⟩⟩
  by_cases h2 : o < (p.c.subs.length : Int)
  rotate_left
  · refine ⟨0,Nat.zero_le _,fun h =>absurd h.2 h2,?_⟩
    unfold PS aah aal
    rw [hr]
    have h3 : (p.c.subs.length : Int) ≤ p.offers := by omega
    rw [h1] at h2
    simp only [abo,Int.reduceEq,if_true,if_false,hw,ht,and_self,abi,abe,List.set_set,List.length_set,ag6,ahb,aa4,ne_eq,not_true_eq_false,not_false_eq_true,true_and,and_true,decide_true,decide_false,reduceCtorEq,abb,aaP,acV,acU,Bool.not_true,Bool.false_eq_true,Bool.not_eq_true',hs,h1,h3,h2]
    exact ⟨_,_,rfl,(fun h =>nomatch h),fun _ =>⟨(by simp),abJ⟩⟩
  have ho : 0 ≤ o ∧ o < (p.c.subs.length : Int) := ⟨by omega,h2⟩
  have hsub := hsub ho
  obtain ⟨q1,q2⟩ := qP1 (c := p.c) (w := w) (t := t) (l := l) ho hq hql
  have h3 : ¬ (p.c.subs.length : Int) ≤ o := by omega
  by_cases h4 : (p.queue.keys.length : Int) < p.c.heap
  · obtain ⟨i,i1,i2,i3,i4⟩ := q2 h4
    refine ⟨i,i1,fun _ _ =>⟨i2,i3⟩,?_⟩
    unfold PS aah aal
    rw [hr]
    subst h1
    simp only [abo,Int.reduceEq,if_true,if_false,hw,ht,and_self,abi,abe,List.set_set,List.length_set,ag6,ahb,aa4,ne_eq,not_true_eq_false,not_false_eq_true,true_and,and_true,decide_true,decide_false,reduceCtorEq,abb,aaP,acV,acU,Bool.not_true,Bool.false_eq_true,Bool.not_eq_true',hs,h3,ho,hsub,i4,h4]
    repeat' split
    all_goals first
      | exact akH (by first | exact True.intro | (simp_all; done) | (simp_all; intros; omega)) rfl
      | exact afL (by first | exact True.intro | (simp_all; done) | (simp_all; intros; omega)) abJ
      | exact afL (by first | exact True.intro | (simp_all; done) | (simp_all; intros; omega)) aqB
  · have i4 := q1 (by omega)
    refine ⟨0,Nat.zero_le _,fun _ h =>absurd h h4,?_⟩
    unfold PS aah aal
    rw [hr]
    subst h1
    simp only [abo,Int.reduceEq,if_true,if_false,hw,ht,and_self,abi,abe,List.set_set,List.length_set,ag6,ahb,aa4,ne_eq,not_true_eq_false,not_false_eq_true,true_and,and_true,decide_true,decide_false,reduceCtorEq,abb,aaP,acV,acU,Bool.not_true,Bool.false_eq_true,Bool.not_eq_true',hs,h3,ho,hsub,i4,h4,Bool.not_false]
    repeat' split
    all_goals first
      | exact afL (by first | exact True.intro | (simp_all; done) | (simp_all; intros; omega)) abJ
      | exact afL (by first | exact True.intro | (simp_all; done) | (simp_all; intros; omega)) aqB
end
def aeX (l : List TkV) : Nat := l.countP fun x =>decide (x.view.phase ≠ 0)
noncomputable def prR (P : List Ins) (x : TkV) : Int × Ins × Bool := apH P x.kids x.pc
def aqq (s : List Int) : List Int := s.take ((s.length : Int) - 1).toNat
section
variable {t : Int}
theorem asr {xs : List TkV} (ht : 0 ≤ t ∧ t < (xs.length : Int)) {x : TkV} (h : x.view.phase = (aat xs t).view.phase) : aeX (xs.set t.toNat x) = aeX xs := by
 have e : ∀ l : List TkV,aeX l = (l.map fun y =>y.view.phase).countP fun z =>decide (z ≠ 0) := fun l =>by
  unfold aeX; rw [List.countP_map]; rfl
 rw [e,e]
 have : (xs.set t.toNat x).map (fun y =>y.view.phase) = xs.map fun y =>y.view.phase := by
  rw [List.map_set,h,← List.map_set]
  exact congrArg _ (aqx (α := TkV) (d := (dfR 61 : TkV)) ht)
 rw [this]
end
end
section
open Go Go.RowKit
set_option maxRecDepth 10000
variable [Tb]
structure TR1 (n : Nat) (c : Cfg) (x : TkP) (y : TkV) : Prop where
 ph : x.ph = y.view.phase
 lv : x.lv = y.view.level
 pa : x.pa = y.view.parent
 wt : x.wt = y.view.other
 pc : x.at_ = y.pc
 kids : x.kids = y.kids
 kn : x.kids.length ≤ n
 at0 : 0 ≤ x.at_ ∧ x.at_ ≤ (x.prog.length : Int)
 prog : x.ph ≠ 0 → (0 ≤ y.prog ∧ y.prog < (c.progs.length : Int)) ∧ x.prog = atL [] c.progs y.prog
 pl : x.prog.length ≤ 1000000
 ot : x.ph ≠ 3 → x.wt = -1
 wr : x.ph = 3 → 0 ≤ x.wt ∧ x.wt < c.tasks
 wk : x.ph ≠ 2 → y.view.worker = -1
structure WR1 (n : Nat) (c : Cfg) (x : WkP) (y : WlV) : Prop where
 stack : x.stack = y.stack
 sn : x.stack.length ≤ n
 won : x.walks = true → x.walk = y.walk ∧ (0 ≤ y.walk ∧ y.walk < c.tasks) ∧ x.low = y.low ∧ x.up = y.up ∧ -1 ≤ y.up
 woff : x.walks = false → y.walk = -1
 sleeps : x.sleeps = y.sleeps
 last : x.last = y.last
structure QR (n : Nat) (x : CtP) (y : QuV) : Prop where
 s : Srt x.keys x.count
 c : x.count = y.count
 pm : List.Perm x.keys y.keys
 nb : (0 ≤ x.count ∧ x.count ≤ n) ∧ x.keys.length ≤ n
def RKo (ts : List TkV) (rk : Int → Nat) : Prop :=
 (∀ i,0 ≤ i ∧ i < (ts.length : Int) → (aat ts i).view.parent = -1 ∨ ((0 ≤ (aat ts i).view.parent ∧ (aat ts i).view.parent < (ts.length : Int)) ∧ (aat ts (aat ts i).view.parent).view.phase ≠ 0 ∧ rk (aat ts i).view.parent < rk i)) ∧
 (∀ i,0 ≤ i ∧ i < (ts.length : Int) → rk i < ts.length ∧ ((aat ts i).view.phase ≠ 0 → rk i < aeX ts))
structure BR (n : Nat) (p : SyP) (r : SaV) : Prop where
 c : r.c = p.c
 tl : (p.tasks.length : Int) = p.c.tasks
 tl2 : r.tasks.length = p.tasks.length
 tl3 : p.tasks.length ≤ 256
 wl : (p.works.length : Int) = p.c.workers + 1
 wl2 : (r.works.length : Int) = p.c.workers
 tk : ∀ i,0 ≤ i ∧ i < (p.tasks.length : Int) → TR1 n p.c (aaf p.tasks i) (aat r.tasks i)
 wk : ∀ i,0 ≤ i ∧ i < p.c.workers → WR1 n p.c (aak p.works i) (abS r.works i)
 cl : (aak p.works p.c.workers).stack = [] ∧ (aak p.works p.c.workers).sleeps = false
 of : r.offers = p.offers
 of0 : 0 ≤ p.offers ∧ p.offers ≤ n
 qu : QR n p.queue r.queue
 kn : p.known = (aeX r.tasks : Int)
 st : ∀ w,0 ≤ w ∧ w < p.c.workers → ∀ t ∈ (abS r.works w).stack,(0 ≤ t ∧ t < (p.tasks.length : Int)) ∧ (aat r.tasks t).view.phase = 2 ∧ (aat r.tasks t).view.worker = w
 nd : ∀ w,0 ≤ w ∧ w < p.c.workers → (abS r.works w).stack.Nodup
 run : ∀ t,0 ≤ t ∧ t < (p.tasks.length : Int) → (aat r.tasks t).view.phase = 2 → (0 ≤ (aat r.tasks t).view.worker ∧ (aat r.tasks t).view.worker < p.c.workers) ∧ t ∈ (abS r.works (aat r.tasks t).view.worker).stack
 rk : ∃ rk,RKo r.tasks rk
section
variable {n : Nat} {p : SyP} {r : SaV} {w t : Int}
theorem TR1.mono {c : Cfg} {x : TkP} {y : TkV} (h : TR1 n c x y) : TR1 (n + 1) c x y := { h with kn := Nat.le_succ_of_le h.kn }
theorem WR1.mono {c : Cfg} {x : WkP} {y : WlV} (h : WR1 n c x y) : WR1 (n + 1) c x y := { h with sn := Nat.le_succ_of_le h.sn }
theorem QR.mono {x : CtP} {y : QuV} (h : QR n x y) : QR (n + 1) x y := { h with nb := ⟨by have := h.nb.1; omega,Nat.le_succ_of_le h.nb.2⟩ }
theorem BR.mono (h : BR n p r) : BR (n + 1) p r := { h with tk := fun i hi =>(h.tk i hi).mono,wk := fun i hi =>(h.wk i hi).mono,qu := h.qu.mono,of0 := ⟨h.of0.1,by have := h.of0.2; omega⟩ }
theorem ayN {α : Type} {d : α} {xs : List α} {v : α} {i j : Int} (h : 0 ≤ i ∧ i < (xs.length : Int)) (hj : 0 ≤ j) : atL d (xs.set i.toNat v) j = if j = i then v else atL d xs j := by
 by_cases e : j = i
 ·subst e; rw [if_pos rfl]; exact asM h
 ·rw [if_neg e]; exact aoZ h.1 hj (fun h =>e h.symm)
theorem awx {xs : List TkP} {v : TkP} {i j : Int} (h : 0 ≤ i ∧ i < (xs.length : Int)) (hj : 0 ≤ j) : aaf (xs.set i.toNat v) j = if j = i then v else aaf xs j := ayN h hj
theorem ava {xs : List WkP} {v : WkP} {i j : Int} (h : 0 ≤ i ∧ i < (xs.length : Int)) (hj : 0 ≤ j) : aak (xs.set i.toNat v) j = if j = i then v else aak xs j := ayN h hj
theorem ahz {xs : List TkV} {v : TkV} {i j : Int} (h : 0 ≤ i ∧ i < (xs.length : Int)) (hj : 0 ≤ j) : aat (xs.set i.toNat v) j = if j = i then v else aat xs j := ayN h hj
theorem asZ {xs : List WlV} {v : WlV} {i j : Int} (h : 0 ≤ i ∧ i < (xs.length : Int)) (hj : 0 ≤ j) : abS (xs.set i.toNat v) j = if j = i then v else abS xs j := ayN h hj
theorem BR.setW (h : BR n p r) (hw : 0 ≤ w ∧ w < p.c.workers) {x : WkP} {y : WlV} (k : WR1 n p.c x y) (hs : y.stack = (abS r.works w).stack) :
  BR n { p with works := p.works.set w.toNat x } { r with works := r.works.set w.toNat y } := by
 have hp : 0 ≤ w ∧ w < (p.works.length : Int) := by have := h.wl; omega
 have hr : 0 ≤ w ∧ w < (r.works.length : Int) := by have := h.wl2; omega
 have hst : ∀ i,0 ≤ i → (abS (r.works.set w.toNat y) i).stack = (abS r.works i).stack := fun i hi =>by
  rw [asZ hr hi]
  split
  ·rename_i e; subst e; exact hs
  ·rfl
 exact { h with
  wl := (congrArg (fun (n : Nat) =>(n : Int)) List.length_set).trans h.wl
  wl2 := (congrArg (fun (n : Nat) =>(n : Int)) List.length_set).trans h.wl2
  wk := fun i hi =>by
   show WR1 n p.c (aak (p.works.set w.toNat x) i) (abS (r.works.set w.toNat y) i)
   rw [ava hp hi.1,asZ hr hi.1]
   split
   ·exact k
   ·exact h.wk i hi
  cl := by
   show (aak (p.works.set w.toNat x) p.c.workers).stack = [] ∧ (aak (p.works.set w.toNat x) p.c.workers).sleeps = false
   rw [ava hp (by have := h.wl2; omega),if_neg (by omega)]
   exact h.cl
  st := fun i hi t ht =>h.st i hi t (by rw [← hst i hi.1]; exact ht)
  nd := fun i hi =>by
   show (abS (r.works.set w.toNat y) i).stack.Nodup
   rw [hst i hi.1]; exact h.nd i hi
  run := fun t ht hp =>by
   have h1 := h.run t ht hp
   refine ⟨h1.1,?_⟩
   show t ∈ (abS (r.works.set w.toNat y) (aat r.tasks t).view.worker).stack
   rw [hst _ h1.1.1]; exact h1.2 }
theorem BR.setC (h : BR n p r) (hw : w = p.c.workers) (h0 : 0 ≤ w) {x : WkP} (k : x.stack = [] ∧ x.sleeps = false) : BR n { p with works := p.works.set w.toNat x } r := by
 have hp : 0 ≤ w ∧ w < (p.works.length : Int) := by have := h.wl; omega
 exact { h with
  wl := (congrArg (fun (n : Nat) =>(n : Int)) List.length_set).trans h.wl
  wk := fun i hi =>by
   show WR1 n p.c (aak (p.works.set w.toNat x) i) (abS r.works i)
   have hi2 : i < p.c.workers := hi.2
   rw [ava hp hi.1,if_neg (by omega)]
   exact h.wk i hi
  cl := by
   show (aak (p.works.set w.toNat x) p.c.workers).stack = [] ∧ (aak (p.works.set w.toNat x) p.c.workers).sleeps = false
   rw [ava hp (by have := h.wl2; omega),if_pos hw.symm]
   exact k }
theorem BR.setT (h : BR n p r) (ht : 0 ≤ t ∧ t < (p.tasks.length : Int)) {x : TkP} {y : TkV} (k : TR1 n p.c x y) (h1 : y.view.phase = (aat r.tasks t).view.phase) (h2 : y.view.worker = (aat r.tasks t).view.worker) (h3 : y.view.parent = (aat r.tasks t).view.parent) :
  BR n { p with tasks := p.tasks.set t.toNat x } { r with tasks := r.tasks.set t.toNat y } := by
 have hr : 0 ≤ t ∧ t < (r.tasks.length : Int) := by have := h.tl2; omega
 have e1 : ∀ i,0 ≤ i → (aat (r.tasks.set t.toNat y) i).view.phase = (aat r.tasks i).view.phase := fun i hi =>by
  rw [ahz hr hi]; split
  ·rename_i e; subst e; exact h1
  ·rfl
 have e2 : ∀ i,0 ≤ i → (aat (r.tasks.set t.toNat y) i).view.worker = (aat r.tasks i).view.worker := fun i hi =>by
  rw [ahz hr hi]; split
  ·rename_i e; subst e; exact h2
  ·rfl
 have e3 : ∀ i,0 ≤ i → (aat (r.tasks.set t.toNat y) i).view.parent = (aat r.tasks i).view.parent := fun i hi =>by
  rw [ahz hr hi]; split
  ·rename_i e; subst e; exact h3
  ·rfl
 exact { h with
  tl := (congrArg (fun (n : Nat) =>(n : Int)) List.length_set).trans h.tl
  tl2 := (List.length_set ..).trans (h.tl2.trans (List.length_set ..).symm)
  tl3 := by rw [List.length_set]; exact h.tl3
  tk := fun i hi =>by
   have hi : 0 ≤ i ∧ i < (p.tasks.length : Int) := by rw [List.length_set] at hi; exact hi
   show TR1 n p.c (aaf (p.tasks.set t.toNat x) i) (aat (r.tasks.set t.toNat y) i)
   rw [awx ht hi.1,ahz hr hi.1]
   split
   ·exact k
   ·exact h.tk i hi
  kn := by
   show p.known = (aeX (r.tasks.set t.toNat y) : Int)
   rw [asr hr h1]; exact h.kn
  st := fun w hw i hi =>by
   obtain ⟨q1,q2,q3⟩ := h.st w hw i hi
   exact ⟨by rw [List.length_set]; exact q1,(e1 i q1.1).trans q2,(e2 i q1.1).trans q3⟩
  run := fun i hi hp =>by
   have hi : 0 ≤ i ∧ i < (p.tasks.length : Int) := by rw [List.length_set] at hi; exact hi
   have h4 := h.run i hi ((e1 i hi.1).symm.trans hp)
   show (0 ≤ (aat (r.tasks.set t.toNat y) i).view.worker ∧ (aat (r.tasks.set t.toNat y) i).view.worker < p.c.workers) ∧ i ∈ (abS r.works (aat (r.tasks.set t.toNat y) i).view.worker).stack
   rw [e2 i hi.1]; exact h4
  rk := by
   obtain ⟨rk,q1,q2⟩ := h.rk
   refine ⟨rk,fun i hi =>?_,fun i hi =>?_⟩
   ·have hi : 0 ≤ i ∧ i < (r.tasks.length : Int) := by rw [List.length_set] at hi; exact hi
    show (aat (r.tasks.set t.toNat y) i).view.parent = -1 ∨ ((0 ≤ (aat (r.tasks.set t.toNat y) i).view.parent ∧ (aat (r.tasks.set t.toNat y) i).view.parent < ((r.tasks.set t.toNat y).length : Int)) ∧ (aat (r.tasks.set t.toNat y) (aat (r.tasks.set t.toNat y) i).view.parent).view.phase ≠ 0 ∧ rk (aat (r.tasks.set t.toNat y) i).view.parent < rk i)
    rw [e3 i hi.1,List.length_set]
    rcases q1 i hi with q3 | ⟨q3,q4,q5⟩
    ·exact .inl q3
    ·refine .inr ⟨q3,?_,q5⟩
     rw [e1 _ q3.1]; exact q4
   ·have hi : 0 ≤ i ∧ i < (r.tasks.length : Int) := by rw [List.length_set] at hi; exact hi
    show rk i < (r.tasks.set t.toNat y).length ∧ ((aat (r.tasks.set t.toNat y) i).view.phase ≠ 0 → rk i < aeX (r.tasks.set t.toNat y))
    rw [e1 i hi.1,List.length_set,asr hr h1]
    exact q2 i hi }
theorem BR.setQ (h : BR n p r) {x : CtP} {y : QuV} {o : Int} (k : QR n x y) (ho : 0 ≤ o ∧ o ≤ n) : BR n { p with queue := x,offers := o } { r with queue := y,offers := o } :=
 { h with of := rfl,of0 := ho,qu := k }
end
end
end Go.Proofs.YtkmkhldmflebkaaGreat
