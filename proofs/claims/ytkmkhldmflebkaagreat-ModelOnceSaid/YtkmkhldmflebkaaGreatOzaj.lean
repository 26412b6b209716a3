/- The reference: machines. Plain safety: what it means that an answer is there; numbers; the leaf functions always answer. The machines of the reference,said plainly: what a line does with the memory,the records,the events and its frame. No program occurs here. -/
import Derived.Test.YtkmkhldmflebkaaGreatOzai
set_option linter.all false
namespace Go.Proofs.YtkmkhldmflebkaaGreat
section
open Go Go.RowKit
set_option maxRecDepth 100000
variable [Tb]
noncomputable def agF (a : Int) (b : Int) : Option ((Int × Unit) × (Unit)) :=
 if b < 1 then
  some ((0,()),())
 else
 if b ≠ 0 then
  if (Int.tmod a b) < 0 then
   if b ≠ 0 then
   some ((wi ((Int.tmod a b) + b),()),())
   else none
  else
  if b ≠ 0 then
   some (((Int.tmod a b),()),())
  else none
 else none
noncomputable abbrev afy : Con SR1 := ⟨23,[.sh sI_,.sh sI_],[.sh sI_],fun x =>agF x.1 x.2.1⟩
theorem ae8 : CO Tryz.prog afy := aaC aaB Tryz.func23 [] trivial [] trivial (fun _ =>[]) [] fun x =>by kernel_rfl
noncomputable def aq5 (a : Int) : Option ((MemV × Unit) × (Unit)) :=
 if (if 0 < (if 131072 < a then 131072 else a) then (if 131072 < a then 131072 else a) else 0) = (if 0 < (if 131072 < a then 131072 else a) then (if 131072 < a then 131072 else a) else 0) then
  if 0 ≤ (if 0 < (if 131072 < a then 131072 else a) then (if 131072 < a then 131072 else a) else 0) ∧ (if 0 < (if 131072 < a then 131072 else a) then (if 131072 < a then 131072 else a) else 0) ≤ 1099511627776 then
   some (((⟨List.replicate ((if 0 < (if 131072 < a then 131072 else a) then (if 131072 < a then 131072 else a) else 0) : Int).toNat (0 : Int),⟨0,0,0,0⟩,0⟩ : MemV),()),())
  else none
 else none
noncomputable abbrev aq4 : Con SR1 := ⟨58,[.sh sI_],[.val 9],fun x =>aq5 x.1⟩
theorem atD : CO Tryz.prog aq4 := aaC aaB Tryz.func58 [] trivial [] trivial (fun _ =>[]) [] fun x =>by kernel_rfl
noncomputable def aeq (a : Int) (b : Int) : Option ((RecV × Unit) × (Unit)) :=
 some (((⟨a,b,0,0,(-1),[],false⟩ : RecV),()),())
noncomputable abbrev agy : Con SR1 := ⟨60,[.sh sI_,.sh sI_],[.val 7],fun x =>aeq x.1 x.2.1⟩
theorem ahi : CO Tryz.prog agy := aaC aaB Tryz.func60 [] trivial [] trivial (fun _ =>[]) [] fun x =>by kernel_rfl
noncomputable def aps (cf : Cfg) : Option ((EnvV × Unit) × (Unit)) :=
 (aiC cf).bind fun r1 =>
 if cf.workers = cf.workers then
  if cf.levels = cf.levels then
   if cf.classes = cf.classes then
   if cf.tasks = cf.tasks then
   if cf.deque = cf.deque then
   if cf.heap = cf.heap then
   if cf.batch = cf.batch then
   if cf.age = cf.age then
   if cf.patience = cf.patience then
   (aq5 r1.1.1).bind fun r2 =>
   if cf.workers = cf.workers then
   if cf.levels = cf.levels then
   if cf.classes = cf.classes then
   if cf.tasks = cf.tasks then
   if cf.deque = cf.deque then
   if cf.heap = cf.heap then
   if cf.batch = cf.batch then
   if cf.age = cf.age then
   if cf.patience = cf.patience then
   (lpF (σ := Int × EnvV × Unit) (β := Int × EnvV × Unit) (fun self5 x3 =>
   if x3.1 < cf.tasks then
   (aeq 0 (-1)).bind fun r6 =>
   if (((x3.2.1.recs.length + ([r6.1.1] : List RecV).length : Nat)) : Int) < 100000000000 then
   self5 (wi (x3.1 + 1),({ x3.2.1 with recs := x3.2.1.recs ++ ([r6.1.1]) } : EnvV),())
   else none
   else
   some (x3.1,x3.2.1,())
   ) 18446744073709551616 (0,(⟨cf,r2.1.1,0,0,[],[]⟩ : EnvV),())).bind fun z4 =>
   some ((z4.2.1,()),())
   else none
   else none
   else none
   else none
   else none
   else none
   else none
   else none
   else none
   else none
   else none
   else none
   else none
   else none
   else none
   else none
  else none
 else none
noncomputable abbrev aqY : Con SR1 := ⟨29,[.val 13],[.sh (.own 12)],fun x =>aps x.1⟩
theorem atB : CO Tryz.prog aqY := aaC aaB Tryz.func29 [alX,aq4,agy] ⟨apC,atD,ahi,trivial⟩ [] trivial (fun _ =>[]) [(3,.loop [.rg 4 sI_,.rg 3 (.own 12)] 18446744073709551616 0)] fun x =>by kernel_rfl
noncomputable def agw (f : FrV) : Option ((MaV × Unit) × (Unit)) :=
 if f.kind = 22 then
  some (((⟨[({ f with line := 1,d := (-1) } : FrV)],false,0,0⟩ : MaV),()),())
 else
 some (((⟨[({ f with line := 1 } : FrV)],false,0,0⟩ : MaV),()),())
noncomputable abbrev aoj : Con SR1 := ⟨30,[.val 8],[.sh (.own 11)],fun x =>agw x.1⟩
theorem aqZ : CO Tryz.prog aoj := aaC aaB Tryz.func30 [] trivial [] trivial (fun _ =>[]) [] fun x =>by kernel_rfl
noncomputable def adO (f : FrV) : Option ((FrV × Bool × Unit) × (FrV × Unit)) :=
 if f.line = 2 then
  some (((⟨8,0,⟨0,0,0,0⟩,f.a,0,0,0,0,0,0,0,0,0,0,[]⟩ : FrV),true,()),(f,()))
 else
 if f.line = 3 then
  some (((⟨11,0,⟨0,0,0,0⟩,f.a,0,0,0,0,0,0,0,0,0,0,[]⟩ : FrV),true,()),(f,()))
 else
 if f.line = 5 then
  some (((⟨5,0,⟨0,0,0,0⟩,f.a,f.t,f.n,0,0,0,0,0,0,0,0,[]⟩ : FrV),true,()),(f,()))
 else
 if f.line = 6 then
  some (((⟨9,0,⟨0,0,0,0⟩,0,0,0,0,0,0,0,0,0,0,0,[]⟩ : FrV),true,()),(f,()))
 else
 if f.line = 7 then
  some (((⟨20,0,⟨0,0,0,0⟩,f.a,f.j,0,0,0,0,0,0,0,0,0,[]⟩ : FrV),true,()),(f,()))
 else
 some (((⟨0,0,⟨0,0,0,0⟩,0,0,0,0,0,0,0,0,0,0,0,[]⟩ : FrV),false,()),(f,()))
noncomputable abbrev afV : Con SR1 := ⟨103,[.ref 8],[.val 8,.sh .b],fun x =>adO x.1⟩
theorem aiv : CO Tryz.prog afV := aaC aaB Tryz.func103 [] trivial [] trivial (fun _ =>[]) [] fun x =>by kernel_rfl
noncomputable def aia (e : EnvV) (f : FrV) : Option ((Unit) × (EnvV × FrV × Unit)) :=
 if f.line ≠ 1 then
  some ((()),(e,f,()))
 else
 if 0 ≤ wi (((f.l.length : Nat) : Int) - 1) ∧ wi (((f.l.length : Nat) : Int) - 1) < ((f.l.length : Nat) : Int) then
  if 0 ≤ (aae f.l (wi (((f.l.length : Nat) : Int) - 1))) then
   if (aae f.l (wi (((f.l.length : Nat) : Int) - 1))) < e.c.tasks then
   if ¬ ((aae f.l (wi (((f.l.length : Nat) : Int) - 1))) < ((e.recs.length : Nat) : Int)) then
   some ((()),(e,({ f with line := 23 } : FrV),()))
   else
   if 0 ≤ aae f.l (wi (((f.l.length : Nat) : Int) - 1)) ∧ aae f.l (wi (((f.l.length : Nat) : Int) - 1)) < ((e.recs.length : Nat) : Int) then
   if 0 ≤ aae f.l (wi (((f.l.length : Nat) : Int) - 1)) ∧ aae f.l (wi (((f.l.length : Nat) : Int) - 1)) < (((e.recs.set (aae f.l (wi (((f.l.length : Nat) : Int) - 1))).toNat (aap e.recs (aae f.l (wi (((f.l.length : Nat) : Int) - 1))))).length : Nat) : Int) then
   if ((aap (e.recs.set (aae f.l (wi (((f.l.length : Nat) : Int) - 1))).toNat (aap e.recs (aae f.l (wi (((f.l.length : Nat) : Int) - 1))))) (aae f.l (wi (((f.l.length : Nat) : Int) - 1)))).prog) < 0 then
   if ((aap e.recs (aae f.l (wi (((f.l.length : Nat) : Int) - 1)))).waiting) ≠ (-1) then
   some ((()),(({ e with recs := e.recs.set (aae f.l (wi (((f.l.length : Nat) : Int) - 1))).toNat (aap e.recs (aae f.l (wi (((f.l.length : Nat) : Int) - 1)))) } : EnvV),({ f with line := 2 } : FrV),()))
   else
   if ((aap e.recs (aae f.l (wi (((f.l.length : Nat) : Int) - 1)))).pc) < 0 then
   some ((()),(({ e with recs := e.recs.set (aae f.l (wi (((f.l.length : Nat) : Int) - 1))).toNat (aap e.recs (aae f.l (wi (((f.l.length : Nat) : Int) - 1)))) } : EnvV),({ f with line := 17 } : FrV),()))
   else
   if 0 ≤ ((aap e.recs (aae f.l (wi (((f.l.length : Nat) : Int) - 1)))).pc) then
   some ((()),(({ e with recs := e.recs.set (aae f.l (wi (((f.l.length : Nat) : Int) - 1))).toNat (aap e.recs (aae f.l (wi (((f.l.length : Nat) : Int) - 1)))) } : EnvV),({ f with line := 17 } : FrV),()))
   else
   none
   else
   if ((e.c.progs.length : Nat) : Int) ≤ ((aap (e.recs.set (aae f.l (wi (((f.l.length : Nat) : Int) - 1))).toNat (aap e.recs (aae f.l (wi (((f.l.length : Nat) : Int) - 1))))) (aae f.l (wi (((f.l.length : Nat) : Int) - 1)))).prog) then
   if ((aap e.recs (aae f.l (wi (((f.l.length : Nat) : Int) - 1)))).waiting) ≠ (-1) then
   some ((()),(({ e with recs := e.recs.set (aae f.l (wi (((f.l.length : Nat) : Int) - 1))).toNat (aap e.recs (aae f.l (wi (((f.l.length : Nat) : Int) - 1)))) } : EnvV),({ f with line := 2 } : FrV),()))
   else
   if ((aap e.recs (aae f.l (wi (((f.l.length : Nat) : Int) - 1)))).pc) < 0 then
   some ((()),(({ e with recs := e.recs.set (aae f.l (wi (((f.l.length : Nat) : Int) - 1))).toNat (aap e.recs (aae f.l (wi (((f.l.length : Nat) : Int) - 1)))) } : EnvV),({ f with line := 17 } : FrV),()))
   else
   if 0 ≤ ((aap e.recs (aae f.l (wi (((f.l.length : Nat) : Int) - 1)))).pc) then
   some ((()),(({ e with recs := e.recs.set (aae f.l (wi (((f.l.length : Nat) : Int) - 1))).toNat (aap e.recs (aae f.l (wi (((f.l.length : Nat) : Int) - 1)))) } : EnvV),({ f with line := 17 } : FrV),()))
   else
   none
   else
   if 0 ≤ (aap (e.recs.set (aae f.l (wi (((f.l.length : Nat) : Int) - 1))).toNat (aap e.recs (aae f.l (wi (((f.l.length : Nat) : Int) - 1))))) (aae f.l (wi (((f.l.length : Nat) : Int) - 1)))).prog ∧ (aap (e.recs.set (aae f.l (wi (((f.l.length : Nat) : Int) - 1))).toNat (aap e.recs (aae f.l (wi (((f.l.length : Nat) : Int) - 1))))) (aae f.l (wi (((f.l.length : Nat) : Int) - 1)))).prog < ((e.c.progs.length : Nat) : Int) then
   if ((aap e.recs (aae f.l (wi (((f.l.length : Nat) : Int) - 1)))).waiting) ≠ (-1) then
   some ((()),(({ e with recs := e.recs.set (aae f.l (wi (((f.l.length : Nat) : Int) - 1))).toNat (aap e.recs (aae f.l (wi (((f.l.length : Nat) : Int) - 1)))) } : EnvV),({ f with line := 2 } : FrV),()))
   else
   if ((aap e.recs (aae f.l (wi (((f.l.length : Nat) : Int) - 1)))).pc) < 0 then
   some ((()),(({ e with recs := e.recs.set (aae f.l (wi (((f.l.length : Nat) : Int) - 1))).toNat (aap e.recs (aae f.l (wi (((f.l.length : Nat) : Int) - 1)))) } : EnvV),({ f with line := 17 } : FrV),()))
   else
   if (((atL [] e.c.progs ((aap (e.recs.set (aae f.l (wi (((f.l.length : Nat) : Int) - 1))).toNat (aap e.recs (aae f.l (wi (((f.l.length : Nat) : Int) - 1))))) (aae f.l (wi (((f.l.length : Nat) : Int) - 1)))).prog)).length : Nat) : Int) ≤ ((aap e.recs (aae f.l (wi (((f.l.length : Nat) : Int) - 1)))).pc) then
   some ((()),(({ e with recs := e.recs.set (aae f.l (wi (((f.l.length : Nat) : Int) - 1))).toNat (aap e.recs (aae f.l (wi (((f.l.length : Nat) : Int) - 1)))) } : EnvV),({ f with line := 17 } : FrV),()))
   else
   if 0 ≤ (aap e.recs (aae f.l (wi (((f.l.length : Nat) : Int) - 1)))).pc ∧ (aap e.recs (aae f.l (wi (((f.l.length : Nat) : Int) - 1)))).pc < (((atL [] e.c.progs ((aap (e.recs.set (aae f.l (wi (((f.l.length : Nat) : Int) - 1))).toNat (aap e.recs (aae f.l (wi (((f.l.length : Nat) : Int) - 1))))) (aae f.l (wi (((f.l.length : Nat) : Int) - 1)))).prog)).length : Nat) : Int) then
   if ((acv (atL [] e.c.progs ((aap (e.recs.set (aae f.l (wi (((f.l.length : Nat) : Int) - 1))).toNat (aap e.recs (aae f.l (wi (((f.l.length : Nat) : Int) - 1))))) (aae f.l (wi (((f.l.length : Nat) : Int) - 1)))).prog)) ((aap e.recs (aae f.l (wi (((f.l.length : Nat) : Int) - 1)))).pc)).op) = 0 then
   some ((()),(({ e with recs := e.recs.set (aae f.l (wi (((f.l.length : Nat) : Int) - 1))).toNat (aap e.recs (aae f.l (wi (((f.l.length : Nat) : Int) - 1)))) } : EnvV),({ f with line := 3 } : FrV),()))
   else
   if 0 ≤ (aap e.recs (aae f.l (wi (((f.l.length : Nat) : Int) - 1)))).pc ∧ (aap e.recs (aae f.l (wi (((f.l.length : Nat) : Int) - 1)))).pc < (((atL [] e.c.progs ((aap (e.recs.set (aae f.l (wi (((f.l.length : Nat) : Int) - 1))).toNat (aap e.recs (aae f.l (wi (((f.l.length : Nat) : Int) - 1))))) (aae f.l (wi (((f.l.length : Nat) : Int) - 1)))).prog)).length : Nat) : Int) then
   if ((acv (atL [] e.c.progs ((aap (e.recs.set (aae f.l (wi (((f.l.length : Nat) : Int) - 1))).toNat (aap e.recs (aae f.l (wi (((f.l.length : Nat) : Int) - 1))))) (aae f.l (wi (((f.l.length : Nat) : Int) - 1)))).prog)) ((aap e.recs (aae f.l (wi (((f.l.length : Nat) : Int) - 1)))).pc)).op) = 1 then
   some ((()),(({ e with recs := e.recs.set (aae f.l (wi (((f.l.length : Nat) : Int) - 1))).toNat (aap e.recs (aae f.l (wi (((f.l.length : Nat) : Int) - 1)))) } : EnvV),({ f with line := 5 } : FrV),()))
   else
   if 0 ≤ (aap e.recs (aae f.l (wi (((f.l.length : Nat) : Int) - 1)))).pc ∧ (aap e.recs (aae f.l (wi (((f.l.length : Nat) : Int) - 1)))).pc < (((atL [] e.c.progs ((aap (e.recs.set (aae f.l (wi (((f.l.length : Nat) : Int) - 1))).toNat (aap e.recs (aae f.l (wi (((f.l.length : Nat) : Int) - 1))))) (aae f.l (wi (((f.l.length : Nat) : Int) - 1)))).prog)).length : Nat) : Int) then
   if ((acv (atL [] e.c.progs ((aap (e.recs.set (aae f.l (wi (((f.l.length : Nat) : Int) - 1))).toNat (aap e.recs (aae f.l (wi (((f.l.length : Nat) : Int) - 1))))) (aae f.l (wi (((f.l.length : Nat) : Int) - 1)))).prog)) ((aap e.recs (aae f.l (wi (((f.l.length : Nat) : Int) - 1)))).pc)).a) < ((((aap e.recs (aae f.l (wi (((f.l.length : Nat) : Int) - 1)))).kids).length : Nat) : Int) then
   if 0 ≤ (aap e.recs (aae f.l (wi (((f.l.length : Nat) : Int) - 1)))).pc ∧ (aap e.recs (aae f.l (wi (((f.l.length : Nat) : Int) - 1)))).pc < (((atL [] e.c.progs ((aap (e.recs.set (aae f.l (wi (((f.l.length : Nat) : Int) - 1))).toNat (aap e.recs (aae f.l (wi (((f.l.length : Nat) : Int) - 1))))) (aae f.l (wi (((f.l.length : Nat) : Int) - 1)))).prog)).length : Nat) : Int) then
   if 0 ≤ (acv (atL [] e.c.progs ((aap (e.recs.set (aae f.l (wi (((f.l.length : Nat) : Int) - 1))).toNat (aap e.recs (aae f.l (wi (((f.l.length : Nat) : Int) - 1))))) (aae f.l (wi (((f.l.length : Nat) : Int) - 1)))).prog)) ((aap e.recs (aae f.l (wi (((f.l.length : Nat) : Int) - 1)))).pc)).a ∧ (acv (atL [] e.c.progs ((aap (e.recs.set (aae f.l (wi (((f.l.length : Nat) : Int) - 1))).toNat (aap e.recs (aae f.l (wi (((f.l.length : Nat) : Int) - 1))))) (aae f.l (wi (((f.l.length : Nat) : Int) - 1)))).prog)) ((aap e.recs (aae f.l (wi (((f.l.length : Nat) : Int) - 1)))).pc)).a < ((((aap e.recs (aae f.l (wi (((f.l.length : Nat) : Int) - 1)))).kids).length : Nat) : Int) then
   if (aae ((aap e.recs (aae f.l (wi (((f.l.length : Nat) : Int) - 1)))).kids) ((acv (atL [] e.c.progs ((aap (e.recs.set (aae f.l (wi (((f.l.length : Nat) : Int) - 1))).toNat (aap e.recs (aae f.l (wi (((f.l.length : Nat) : Int) - 1))))) (aae f.l (wi (((f.l.length : Nat) : Int) - 1)))).prog)) ((aap e.recs (aae f.l (wi (((f.l.length : Nat) : Int) - 1)))).pc)).a)) ≠ (-1) then
   if 0 ≤ (aap e.recs (aae f.l (wi (((f.l.length : Nat) : Int) - 1)))).pc ∧ (aap e.recs (aae f.l (wi (((f.l.length : Nat) : Int) - 1)))).pc < (((atL [] e.c.progs ((aap (e.recs.set (aae f.l (wi (((f.l.length : Nat) : Int) - 1))).toNat (aap e.recs (aae f.l (wi (((f.l.length : Nat) : Int) - 1))))) (aae f.l (wi (((f.l.length : Nat) : Int) - 1)))).prog)).length : Nat) : Int) then
   if 0 ≤ (acv (atL [] e.c.progs ((aap (e.recs.set (aae f.l (wi (((f.l.length : Nat) : Int) - 1))).toNat (aap e.recs (aae f.l (wi (((f.l.length : Nat) : Int) - 1))))) (aae f.l (wi (((f.l.length : Nat) : Int) - 1)))).prog)) ((aap e.recs (aae f.l (wi (((f.l.length : Nat) : Int) - 1)))).pc)).a ∧ (acv (atL [] e.c.progs ((aap (e.recs.set (aae f.l (wi (((f.l.length : Nat) : Int) - 1))).toNat (aap e.recs (aae f.l (wi (((f.l.length : Nat) : Int) - 1))))) (aae f.l (wi (((f.l.length : Nat) : Int) - 1)))).prog)) ((aap e.recs (aae f.l (wi (((f.l.length : Nat) : Int) - 1)))).pc)).a < ((((aap e.recs (aae f.l (wi (((f.l.length : Nat) : Int) - 1)))).kids).length : Nat) : Int) then
   some ((()),(({ e with recs := e.recs.set (aae f.l (wi (((f.l.length : Nat) : Int) - 1))).toNat (aap e.recs (aae f.l (wi (((f.l.length : Nat) : Int) - 1)))) } : EnvV),({ f with line := 10,j := aae ((aap e.recs (aae f.l (wi (((f.l.length : Nat) : Int) - 1)))).kids) ((acv (atL [] e.c.progs ((aap (e.recs.set (aae f.l (wi (((f.l.length : Nat) : Int) - 1))).toNat (aap e.recs (aae f.l (wi (((f.l.length : Nat) : Int) - 1))))) (aae f.l (wi (((f.l.length : Nat) : Int) - 1)))).prog)) ((aap e.recs (aae f.l (wi (((f.l.length : Nat) : Int) - 1)))).pc)).a) } : FrV),()))
   else none
   else none
   else
   some ((()),(({ e with recs := e.recs.set (aae f.l (wi (((f.l.length : Nat) : Int) - 1))).toNat (aap e.recs (aae f.l (wi (((f.l.length : Nat) : Int) - 1)))) } : EnvV),({ f with line := 4 } : FrV),()))
   else none
   else none
   else
   some ((()),(({ e with recs := e.recs.set (aae f.l (wi (((f.l.length : Nat) : Int) - 1))).toNat (aap e.recs (aae f.l (wi (((f.l.length : Nat) : Int) - 1)))) } : EnvV),({ f with line := 4 } : FrV),()))
   else none
   else none
   else none
   else none
   else none
   else none
   else
   some ((()),(e,({ f with line := 23 } : FrV),()))
  else
  some ((()),(e,({ f with line := 23 } : FrV),()))
 else none
noncomputable abbrev ajE : Con SR1 := ⟨149,[.ref 12,.ref 8],[],fun x =>aia x.1 x.2.1⟩
noncomputable def am9 : List (Nat × Func) := [(173,Tryz.f173),(102,Tryz.f102),(174,Tryz.f174)]
theorem ana : CO Tryz.prog ajE := aaC aaB Tryz.func149 [] trivial am9 ⟨Tryz.func173,Tryz.func102,Tryz.func174,trivial⟩ (fun _ =>[]) [] fun x =>by kernel_rfl
noncomputable def afs (e : EnvV) (f : FrV) : Option ((FrV × Bool × Unit) × (EnvV × FrV × Unit)) :=
 (aia e f).bind fun r1 =>
 if r1.2.2.1.line = 5 then
  some (((⟨12,0,⟨0,0,0,0⟩,0,0,0,0,0,0,0,0,0,0,0,[]⟩ : FrV),true,()),(r1.2.1,r1.2.2.1,()))
 else
 if r1.2.2.1.line = 6 then
  some (((⟨13,0,⟨0,0,0,0⟩,r1.2.2.1.n,r1.2.2.1.d,0,0,0,0,0,0,0,0,0,[]⟩ : FrV),true,()),(r1.2.1,r1.2.2.1,()))
 else
 if r1.2.2.1.line = 7 then
  some (((⟨5,0,⟨0,0,0,0⟩,r1.2.2.1.a,r1.2.2.1.d,r1.2.2.1.n,0,0,0,0,0,0,0,0,[]⟩ : FrV),true,()),(r1.2.1,r1.2.2.1,()))
 else
 if r1.2.2.1.line = 8 then
  some (((⟨20,0,⟨0,0,0,0⟩,r1.2.2.1.a,r1.2.2.1.d,0,0,0,0,0,0,0,0,0,[]⟩ : FrV),true,()),(r1.2.1,r1.2.2.1,()))
 else
 if r1.2.2.1.line = 9 then
  if r1.2.2.1.line = 9 then
   some (((⟨14,0,⟨0,0,0,0⟩,r1.2.2.1.a,r1.2.2.1.n,0,0,0,0,0,0,0,0,0,[]⟩ : FrV),true,()),(r1.2.1,r1.2.2.1,()))
  else
  if r1.2.2.1.line = 14 then
   some (((⟨17,0,⟨0,0,0,0⟩,r1.2.2.1.a,r1.2.2.1.j,r1.2.2.1.t,0,0,0,0,0,0,0,0,[]⟩ : FrV),true,()),(r1.2.1,r1.2.2.1,()))
  else
  if r1.2.2.1.line = 20 then
   some (((⟨15,0,⟨0,0,0,0⟩,r1.2.2.1.a,r1.2.2.1.n,0,0,0,0,0,0,0,0,0,[]⟩ : FrV),true,()),(r1.2.1,r1.2.2.1,()))
  else
  if r1.2.2.1.line = 21 then
   some (((⟨20,0,⟨0,0,0,0⟩,r1.2.2.1.a,r1.2.2.1.t,0,0,0,0,0,0,0,0,0,[]⟩ : FrV),true,()),(r1.2.1,r1.2.2.1,()))
  else
  some (((⟨0,0,⟨0,0,0,0⟩,0,0,0,0,0,0,0,0,0,0,0,[]⟩ : FrV),false,()),(r1.2.1,r1.2.2.1,()))
 else
 if r1.2.2.1.line = 22 then
  some (((⟨14,0,⟨0,0,0,0⟩,r1.2.2.1.a,r1.2.2.1.n,0,0,0,0,0,0,0,0,0,[]⟩ : FrV),true,()),(r1.2.1,r1.2.2.1,()))
 else
 if r1.2.2.1.line = 14 then
  some (((⟨17,0,⟨0,0,0,0⟩,r1.2.2.1.a,r1.2.2.1.j,r1.2.2.1.t,0,0,0,0,0,0,0,0,[]⟩ : FrV),true,()),(r1.2.1,r1.2.2.1,()))
 else
 if r1.2.2.1.line = 20 then
  some (((⟨15,0,⟨0,0,0,0⟩,r1.2.2.1.a,r1.2.2.1.n,0,0,0,0,0,0,0,0,0,[]⟩ : FrV),true,()),(r1.2.1,r1.2.2.1,()))
 else
 if r1.2.2.1.line = 21 then
  some (((⟨20,0,⟨0,0,0,0⟩,r1.2.2.1.a,r1.2.2.1.t,0,0,0,0,0,0,0,0,0,[]⟩ : FrV),true,()),(r1.2.1,r1.2.2.1,()))
 else
 some (((⟨0,0,⟨0,0,0,0⟩,0,0,0,0,0,0,0,0,0,0,0,[]⟩ : FrV),false,()),(r1.2.1,r1.2.2.1,()))
noncomputable abbrev ahO : Con SR1 := ⟨104,[.ref 12,.ref 8],[.val 8,.sh .b],fun x =>afs x.1 x.2.1⟩
theorem aks : CO Tryz.prog ahO := aaC aaB Tryz.func104 [ajE] ⟨ana,trivial⟩ [] trivial (fun _ =>[]) [] fun x =>by kernel_rfl
noncomputable def afr (a : Int) (b : Int) : Option ((FrV × Unit) × (Unit)) :=
 some (((⟨24,0,⟨0,0,0,0⟩,a,b,0,0,0,0,0,0,0,0,0,[b]⟩ : FrV),()),())
noncomputable abbrev ahN : Con SR1 := ⟨150,[.sh sI_,.sh sI_],[.val 8],fun x =>afr x.1 x.2.1⟩
theorem akr : CO Tryz.prog ahN := aaC aaB Tryz.func150 [] trivial [] trivial (fun _ =>[]) [] fun x =>by kernel_rfl
noncomputable def ado (e : EnvV) (f : FrV) : Option ((FrV × Bool × Unit) × (EnvV × FrV × Unit)) :=
 if f.line = 1 then
  if e.c.age = 0 then
   some (((⟨23,0,⟨0,0,0,0⟩,f.a,0,0,0,0,0,0,0,0,0,0,[]⟩ : FrV),true,()),(e,({ f with line := 2 } : FrV),()))
  else
  if f.line = 1 then
   some (((⟨18,0,⟨0,0,0,0⟩,f.a,f.j,0,0,0,0,0,0,0,0,0,[]⟩ : FrV),true,()),(e,f,()))
  else
  if f.line = 2 then
   some (((⟨23,0,⟨0,0,0,0⟩,f.a,0,0,0,0,0,0,0,0,0,0,[]⟩ : FrV),true,()),(e,f,()))
  else
  if f.line = 3 then
   some (((⟨22,0,⟨0,0,0,0⟩,f.a,0,(-1),0,0,0,0,0,0,0,0,[]⟩ : FrV),true,()),(e,f,()))
  else
  if f.line = 4 then
   some (((⟨21,0,⟨0,0,0,0⟩,f.a,0,0,0,0,0,0,0,0,0,0,[]⟩ : FrV),true,()),(e,f,()))
  else
  if f.line = 5 then
   (ad0 e.c f.i f.d).bind fun r1 =>
   some (((⟨2,0,r1.1.1,0,0,0,0,0,0,0,0,0,0,0,[]⟩ : FrV),true,()),(e,f,()))
  else
  if f.line = 6 then
   some (((⟨14,0,⟨0,0,0,0⟩,f.a,f.n,0,0,0,0,0,0,0,0,0,[]⟩ : FrV),true,()),(e,f,()))
  else
  if f.line = 7 then
   (afr f.a f.n).bind fun r2 =>
   some ((r2.1.1,true,()),(e,f,()))
  else
  if f.line = 8 then
   some (((⟨19,0,⟨0,0,0,0⟩,f.a,0,0,0,0,0,0,0,0,0,0,[]⟩ : FrV),true,()),(e,f,()))
  else
  (acy e.c f.i).bind fun r3 =>
  if f.d = f.d then
   if f.i = f.i then
   if e.c.workers = e.c.workers then
   if e.c.levels = e.c.levels then
   if e.c.classes = e.c.classes then
   if e.c.tasks = e.c.tasks then
   if e.c.deque = e.c.deque then
   if e.c.heap = e.c.heap then
   if e.c.batch = e.c.batch then
   if e.c.age = e.c.age then
   if e.c.patience = e.c.patience then
   if f.d = f.d then
   (ad0 e.c f.i f.d).bind fun r4 =>
   if f.d = f.d then
   some (((⟨4,0,r4.1.1,r3.1.1,f.d,0,0,0,0,0,0,0,0,0,[]⟩ : FrV),true,()),(e,f,()))
   else none
   else none
   else none
   else none
   else none
   else none
   else none
   else none
   else none
   else none
   else none
   else none
  else none
 else
 if f.line = 1 then
  some (((⟨18,0,⟨0,0,0,0⟩,f.a,f.j,0,0,0,0,0,0,0,0,0,[]⟩ : FrV),true,()),(e,f,()))
 else
 if f.line = 2 then
  some (((⟨23,0,⟨0,0,0,0⟩,f.a,0,0,0,0,0,0,0,0,0,0,[]⟩ : FrV),true,()),(e,f,()))
 else
 if f.line = 3 then
  some (((⟨22,0,⟨0,0,0,0⟩,f.a,0,(-1),0,0,0,0,0,0,0,0,[]⟩ : FrV),true,()),(e,f,()))
 else
 if f.line = 4 then
  some (((⟨21,0,⟨0,0,0,0⟩,f.a,0,0,0,0,0,0,0,0,0,0,[]⟩ : FrV),true,()),(e,f,()))
 else
 if f.line = 5 then
  (ad0 e.c f.i f.d).bind fun r5 =>
  some (((⟨2,0,r5.1.1,0,0,0,0,0,0,0,0,0,0,0,[]⟩ : FrV),true,()),(e,f,()))
 else
 if f.line = 6 then
  some (((⟨14,0,⟨0,0,0,0⟩,f.a,f.n,0,0,0,0,0,0,0,0,0,[]⟩ : FrV),true,()),(e,f,()))
 else
 if f.line = 7 then
  (afr f.a f.n).bind fun r6 =>
  some ((r6.1.1,true,()),(e,f,()))
 else
 if f.line = 8 then
  some (((⟨19,0,⟨0,0,0,0⟩,f.a,0,0,0,0,0,0,0,0,0,0,[]⟩ : FrV),true,()),(e,f,()))
 else
 (acy e.c f.i).bind fun r7 =>
 if f.d = f.d then
  if f.i = f.i then
   if e.c.workers = e.c.workers then
   if e.c.levels = e.c.levels then
   if e.c.classes = e.c.classes then
   if e.c.tasks = e.c.tasks then
   if e.c.deque = e.c.deque then
   if e.c.heap = e.c.heap then
   if e.c.batch = e.c.batch then
   if e.c.age = e.c.age then
   if e.c.patience = e.c.patience then
   if f.d = f.d then
   (ad0 e.c f.i f.d).bind fun r8 =>
   if f.d = f.d then
   some (((⟨4,0,r8.1.1,r7.1.1,f.d,0,0,0,0,0,0,0,0,0,[]⟩ : FrV),true,()),(e,f,()))
   else none
   else none
   else none
   else none
   else none
   else none
   else none
   else none
   else none
   else none
   else none
  else none
 else none
noncomputable abbrev ae2 : Con SR1 := ⟨105,[.ref 12,.ref 8],[.val 8,.sh .b],fun x =>ado x.1 x.2.1⟩
theorem ah2 : CO Tryz.prog ae2 := aaC aaB Tryz.func105 [aiA,ahN,adv] ⟨ajH,akr,adD,trivial⟩ [] trivial (fun _ =>[]) [] fun x =>by kernel_rfl
noncomputable def adp (e : EnvV) (f : FrV) : Option ((FrV × Bool × Unit) × (EnvV × FrV × Unit)) :=
 if ((e.c.subs.length : Nat) : Int) ≤ f.i then
  some (((⟨0,0,⟨0,0,0,0⟩,0,0,0,0,0,0,0,0,0,0,0,[]⟩ : FrV),false,()),(e,f,()))
 else
 if 0 ≤ f.i ∧ f.i < ((e.c.subs.length : Nat) : Int) then
  if ((ac1 e.c.subs f.i).prog) = ((ac1 e.c.subs f.i).prog) then
   if ((ac1 e.c.subs f.i).level) = ((ac1 e.c.subs f.i).level) then
   if ((ac1 e.c.subs f.i).deadline) = ((ac1 e.c.subs f.i).deadline) then
   if f.i = f.i then
   if f.line = 1 then
   some (((⟨7,0,⟨0,0,0,0⟩,e.c.workers,0,0,0,0,0,0,0,0,0,0,[]⟩ : FrV),true,()),(e,f,()))
   else
   if f.line = 3 then
   some (((⟨12,0,⟨0,0,0,0⟩,0,0,0,0,0,0,0,0,0,0,0,[]⟩ : FrV),true,()),(e,f,()))
   else
   if f.line = 6 then
   some (((⟨10,0,⟨0,0,0,0⟩,(ac1 e.c.subs f.i).deadline,f.n,0,0,0,0,0,0,0,0,0,[]⟩ : FrV),true,()),(e,f,()))
   else
   if f.line = 8 then
   some (((⟨9,0,⟨0,0,0,0⟩,0,0,0,0,0,0,0,0,0,0,0,[]⟩ : FrV),true,()),(e,f,()))
   else
   if f.line = 9 then
   some (((⟨20,0,⟨0,0,0,0⟩,e.c.workers,(ac1 e.c.subs f.i).level,0,0,0,0,0,0,0,0,0,[]⟩ : FrV),true,()),(e,f,()))
   else
   some (((⟨0,0,⟨0,0,0,0⟩,0,0,0,0,0,0,0,0,0,0,0,[]⟩ : FrV),false,()),(e,f,()))
   else none
   else none
   else none
  else none
 else none
noncomputable abbrev ae3 : Con SR1 := ⟨106,[.ref 12,.ref 8],[.val 8,.sh .b],fun x =>adp x.1 x.2.1⟩
theorem ah3 : CO Tryz.prog ae3 := aaC aaB Tryz.func106 [] trivial [] trivial (fun _ =>[]) [] fun x =>by kernel_rfl
noncomputable def af5 (e : EnvV) (f : FrV) : Option ((FrV × Bool × Unit) × (EnvV × FrV × Unit)) :=
 if f.kind = 5 then
  if f.line = 1 then
   (ad0 e.c f.a f.b).bind fun r1 =>
   if f.d = f.d then
   some (((⟨0,0,r1.1.1,f.d,0,0,0,0,0,0,0,0,0,0,[]⟩ : FrV),true,()),(e,f,()))
   else none
  else
  (acy e.c f.a).bind fun r2 =>
  if f.b = f.b then
   some (((⟨3,0,⟨0,0,0,0⟩,r2.1.1,f.b,0,0,0,0,0,0,0,0,0,[]⟩ : FrV),true,()),(e,f,()))
  else none
 else
 if f.kind = 6 then
  if f.line = 2 then
   (ad0 e.c f.a f.i).bind fun r3 =>
   some (((⟨1,0,r3.1.1,0,0,0,0,0,0,0,0,0,0,0,[]⟩ : FrV),true,()),(e,f,()))
  else
  if f.line = 3 then
   (acy e.c f.a).bind fun r4 =>
   if f.i = f.i then
   if f.a = f.a then
   if e.c.workers = e.c.workers then
   if e.c.levels = e.c.levels then
   if e.c.classes = e.c.classes then
   if e.c.tasks = e.c.tasks then
   if e.c.deque = e.c.deque then
   if e.c.heap = e.c.heap then
   if e.c.batch = e.c.batch then
   if e.c.age = e.c.age then
   if e.c.patience = e.c.patience then
   if f.i = f.i then
   (ad0 e.c f.a f.i).bind fun r5 =>
   if f.i = f.i then
   some (((⟨4,0,r5.1.1,r4.1.1,f.i,0,0,0,0,0,0,0,0,0,[]⟩ : FrV),true,()),(e,f,()))
   else none
   else none
   else none
   else none
   else none
   else none
   else none
   else none
   else none
   else none
   else none
   else none
   else none
  else
  some (((⟨0,0,⟨0,0,0,0⟩,0,0,0,0,0,0,0,0,0,0,0,[]⟩ : FrV),false,()),(e,f,()))
 else
 if f.kind = 15 then
  if f.line = 4 then
   some (((⟨5,0,⟨0,0,0,0⟩,f.a,f.t,f.b,0,0,0,0,0,0,0,0,[]⟩ : FrV),true,()),(e,f,()))
  else
  some (((⟨0,0,⟨0,0,0,0⟩,0,0,0,0,0,0,0,0,0,0,0,[]⟩ : FrV),false,()),(e,f,()))
 else
 if f.kind = 17 then
  if f.line = 1 then
   if 0 ≤ f.b then
   if f.b < e.c.tasks then
   if f.b < ((e.recs.length : Nat) : Int) then
   if 0 ≤ f.d then
   if f.d < e.c.levels then
   some ((({ f with kind := 16,line := 0,q := ⟨0,0,0,0⟩,i := 0,j := 0,n := 0,t := 0,u := 0,v := 0,w := 0,x := 0,l := [] } : FrV),true,()),(e,f,()))
   else
   if f.line = 3 then
   some (((⟨5,0,⟨0,0,0,0⟩,f.a,f.d,f.b,0,0,0,0,0,0,0,0,[]⟩ : FrV),true,()),(e,f,()))
   else
   some (((⟨0,0,⟨0,0,0,0⟩,0,0,0,0,0,0,0,0,0,0,0,[]⟩ : FrV),false,()),(e,f,()))
   else
   if f.line = 3 then
   some (((⟨5,0,⟨0,0,0,0⟩,f.a,f.d,f.b,0,0,0,0,0,0,0,0,[]⟩ : FrV),true,()),(e,f,()))
   else
   some (((⟨0,0,⟨0,0,0,0⟩,0,0,0,0,0,0,0,0,0,0,0,[]⟩ : FrV),false,()),(e,f,()))
   else
   if f.line = 3 then
   some (((⟨5,0,⟨0,0,0,0⟩,f.a,f.d,f.b,0,0,0,0,0,0,0,0,[]⟩ : FrV),true,()),(e,f,()))
   else
   some (((⟨0,0,⟨0,0,0,0⟩,0,0,0,0,0,0,0,0,0,0,0,[]⟩ : FrV),false,()),(e,f,()))
   else
   if f.line = 3 then
   some (((⟨5,0,⟨0,0,0,0⟩,f.a,f.d,f.b,0,0,0,0,0,0,0,0,[]⟩ : FrV),true,()),(e,f,()))
   else
   some (((⟨0,0,⟨0,0,0,0⟩,0,0,0,0,0,0,0,0,0,0,0,[]⟩ : FrV),false,()),(e,f,()))
   else
   if f.line = 3 then
   some (((⟨5,0,⟨0,0,0,0⟩,f.a,f.d,f.b,0,0,0,0,0,0,0,0,[]⟩ : FrV),true,()),(e,f,()))
   else
   some (((⟨0,0,⟨0,0,0,0⟩,0,0,0,0,0,0,0,0,0,0,0,[]⟩ : FrV),false,()),(e,f,()))
  else
  if f.line = 3 then
   some (((⟨5,0,⟨0,0,0,0⟩,f.a,f.d,f.b,0,0,0,0,0,0,0,0,[]⟩ : FrV),true,()),(e,f,()))
  else
  some (((⟨0,0,⟨0,0,0,0⟩,0,0,0,0,0,0,0,0,0,0,0,[]⟩ : FrV),false,()),(e,f,()))
 else
 if f.kind = 18 then
  if f.line = 6 then
   some (((⟨5,0,⟨0,0,0,0⟩,f.a,f.t,f.b,0,0,0,0,0,0,0,0,[]⟩ : FrV),true,()),(e,f,()))
  else
  some (((⟨0,0,⟨0,0,0,0⟩,0,0,0,0,0,0,0,0,0,0,0,[]⟩ : FrV),false,()),(e,f,()))
 else
 if f.kind = 22 then
  (adO f).bind fun r6 =>
  some ((r6.1.1,r6.1.2.1,()),(e,r6.2.1,()))
 else
 if f.kind = 23 then
  if f.line = 1 then
   some (((⟨6,0,⟨0,0,0,0⟩,f.a,0,0,0,0,0,0,0,0,0,0,[]⟩ : FrV),true,()),(e,f,()))
  else
  some (((⟨14,0,⟨0,0,0,0⟩,f.a,f.n,0,0,0,0,0,0,0,0,0,[]⟩ : FrV),true,()),(e,f,()))
 else
 if f.kind = 24 then
  (afs e f).bind fun r7 =>
  some ((r7.1.1,r7.1.2.1,()),(r7.2.1,r7.2.2.1,()))
 else
 if f.kind = 25 then
  (ado e f).bind fun r8 =>
  some ((r8.1.1,r8.1.2.1,()),(r8.2.1,r8.2.2.1,()))
 else
 if f.kind = 26 then
  (adp e f).bind fun r9 =>
  some ((r9.1.1,r9.1.2.1,()),(r9.2.1,r9.2.2.1,()))
 else
 some (((⟨0,0,⟨0,0,0,0⟩,0,0,0,0,0,0,0,0,0,0,0,[]⟩ : FrV),false,()),(e,f,()))
noncomputable abbrev alP : Con SR1 := ⟨83,[.ref 12,.ref 8],[.val 8,.sh .b],fun x =>af5 x.1 x.2.1⟩
noncomputable def apu : List (Nat × Func) := [(102,Tryz.f102)]
theorem apv : CO Tryz.prog alP := aaC aaB Tryz.func83 [aiA,adv,afV,ahO,ae2,ae3] ⟨ajH,adD,aiv,aks,ah2,ah3,trivial⟩ apu ⟨Tryz.func102,trivial⟩ (fun _ =>[]) [] fun x =>by kernel_rfl
noncomputable def aoi (e : EnvV) (f : FrV) : Option ((ResV × Unit) × (EnvV × FrV × Unit)) :=
 if f.line = 1 then
  (aaz e.m 1 f.q.bottom 0 0).bind fun r1 =>
  some (((⟨false,0,0⟩ : ResV),()),(({ e with m := r1.2.1 } : EnvV),({ f with line := wi (f.line + 1),u := r1.1.1 } : FrV),()))
 else
 if f.line = 2 then
  (aaz e.m 1 f.q.top 0 0).bind fun r2 =>
  if f.q.cap = f.q.cap then
   if f.q.cap ≤ (wi (wu (f.u - r2.1.1))) then
   some (((⟨true,3,0⟩ : ResV),()),(({ e with m := r2.2.1 } : EnvV),({ f with v := r2.1.1 } : FrV),()))
   else
   some (((⟨false,0,0⟩ : ResV),()),(({ e with m := r2.2.1 } : EnvV),({ f with line := wi (f.line + 1),v := r2.1.1 } : FrV),()))
  else none
 else
 if f.line = 3 then
  if f.q.cap < 1 then
   if f.a = f.a then
   (aaz e.m 2 (-1) (wu (f.a)) 0).bind fun r3 =>
   some (((⟨false,0,0⟩ : ResV),()),(({ e with m := r3.2.1 } : EnvV),({ f with line := wi (f.line + 1) } : FrV),()))
   else none
  else
  if (wu (f.q.cap)) ≠ 0 then
   if f.a = f.a then
   (aaz e.m 2 (wi (f.q.ring + (wi ((Int.tmod f.u (wu (f.q.cap))))))) (wu (f.a)) 0).bind fun r4 =>
   some (((⟨false,0,0⟩ : ResV),()),(({ e with m := r4.2.1 } : EnvV),({ f with line := wi (f.line + 1) } : FrV),()))
   else none
  else none
 else
 (aaz e.m 2 f.q.bottom (wu (f.u + 1)) 0).bind fun r5 =>
 some (((⟨true,0,0⟩ : ResV),()),(({ e with m := r5.2.1 } : EnvV),f,()))
noncomputable abbrev aoh : Con SR1 := ⟨107,[.ref 12,.ref 8],[.val 10],fun x =>aoi x.1 x.2.1⟩
noncomputable def aqU : List (Nat × Func) := [(114,Tryz.f114),(151,Tryz.f151),(112,Tryz.f112),(152,Tryz.f152),(117,Tryz.f117)]
theorem aqV : CO Tryz.prog aoh := aaC aaB Tryz.func107 [acd] ⟨abR,trivial⟩ aqU ⟨Tryz.func114,Tryz.func151,Tryz.func112,Tryz.func152,Tryz.func117,trivial⟩ (fun _ =>[]) [] fun x =>by kernel_rfl
noncomputable def atA (e : EnvV) (f : FrV) : Option ((ResV × Unit) × (EnvV × FrV × Unit)) :=
 if f.line = 1 then
  (aaz e.m 1 f.q.bottom 0 0).bind fun r1 =>
  some (((⟨false,0,0⟩ : ResV),()),(({ e with m := r1.2.1 } : EnvV),({ f with line := wi (f.line + 1),u := r1.1.1 } : FrV),()))
 else
 if f.line = 2 then
  (aaz e.m 1 f.q.top 0 0).bind fun r2 =>
  if (wi (wu (f.u - r2.1.1))) ≤ 0 then
   some (((⟨true,2,0⟩ : ResV),()),(({ e with m := r2.2.1 } : EnvV),({ f with v := r2.1.1 } : FrV),()))
  else
  some (((⟨false,0,0⟩ : ResV),()),(({ e with m := r2.2.1 } : EnvV),({ f with line := wi (f.line + 1),v := r2.1.1 } : FrV),()))
 else
 if f.line = 3 then
  (aaz e.m 2 f.q.bottom (wu (f.u - 1)) 0).bind fun r3 =>
  some (((⟨false,0,0⟩ : ResV),()),(({ e with m := r3.2.1 } : EnvV),({ f with line := wi (f.line + 1) } : FrV),()))
 else
 if f.line = 4 then
  (aaz e.m 1 f.q.top 0 0).bind fun r4 =>
  if (wi (wu ((wu (f.u - 1)) - r4.1.1))) = 0 then
   some (((⟨false,0,0⟩ : ResV),()),(({ e with m := r4.2.1 } : EnvV),({ f with line := 6,v := r4.1.1 } : FrV),()))
  else
  if (wi (wu ((wu (f.u - 1)) - r4.1.1))) < 0 then
   some (((⟨false,0,0⟩ : ResV),()),(({ e with m := r4.2.1 } : EnvV),({ f with line := 9,v := r4.1.1 } : FrV),()))
  else
  some (((⟨false,0,0⟩ : ResV),()),(({ e with m := r4.2.1 } : EnvV),({ f with line := wi (f.line + 1),v := r4.1.1 } : FrV),()))
 else
 if f.line = 5 then
  if f.line = 5 then
   if f.q.cap < 1 then
   (aaz e.m 1 (-1) 0 0).bind fun r5 =>
   some (((⟨true,1,wi (r5.1.1)⟩ : ResV),()),(({ e with m := r5.2.1 } : EnvV),f,()))
   else
   if (wu (f.q.cap)) ≠ 0 then
   (aaz e.m 1 (wi (f.q.ring + (wi ((Int.tmod (wu (f.u - 1)) (wu (f.q.cap))))))) 0 0).bind fun r6 =>
   some (((⟨true,1,wi (r6.1.1)⟩ : ResV),()),(({ e with m := r6.2.1 } : EnvV),f,()))
   else none
  else
  if f.line = 6 then
   (aaz e.m 3 f.q.top f.v (wu (f.v + 1))).bind fun r7 =>
   if (!r7.1.2.1) = true then
   some (((⟨false,0,0⟩ : ResV),()),(({ e with m := r7.2.1 } : EnvV),({ f with line := 9 } : FrV),()))
   else
   some (((⟨false,0,0⟩ : ResV),()),(({ e with m := r7.2.1 } : EnvV),({ f with line := wi (f.line + 1) } : FrV),()))
  else
  if f.line = 7 then
   (aaz e.m 2 f.q.bottom f.u 0).bind fun r8 =>
   some (((⟨false,0,0⟩ : ResV),()),(({ e with m := r8.2.1 } : EnvV),({ f with line := wi (f.line + 1) } : FrV),()))
  else
  (aaz e.m 2 f.q.bottom f.u 0).bind fun r9 =>
  some (((⟨true,2,0⟩ : ResV),()),(({ e with m := r9.2.1 } : EnvV),f,()))
 else
 if f.line = 8 then
  if f.q.cap < 1 then
   (aaz e.m 1 (-1) 0 0).bind fun r10 =>
   some (((⟨true,1,wi (r10.1.1)⟩ : ResV),()),(({ e with m := r10.2.1 } : EnvV),f,()))
  else
  if (wu (f.q.cap)) ≠ 0 then
   (aaz e.m 1 (wi (f.q.ring + (wi ((Int.tmod (wu (f.u - 1)) (wu (f.q.cap))))))) 0 0).bind fun r11 =>
   some (((⟨true,1,wi (r11.1.1)⟩ : ResV),()),(({ e with m := r11.2.1 } : EnvV),f,()))
  else none
 else
 if f.line = 6 then
  (aaz e.m 3 f.q.top f.v (wu (f.v + 1))).bind fun r12 =>
  if (!r12.1.2.1) = true then
   some (((⟨false,0,0⟩ : ResV),()),(({ e with m := r12.2.1 } : EnvV),({ f with line := 9 } : FrV),()))
  else
  some (((⟨false,0,0⟩ : ResV),()),(({ e with m := r12.2.1 } : EnvV),({ f with line := wi (f.line + 1) } : FrV),()))
 else
 if f.line = 7 then
  (aaz e.m 2 f.q.bottom f.u 0).bind fun r13 =>
  some (((⟨false,0,0⟩ : ResV),()),(({ e with m := r13.2.1 } : EnvV),({ f with line := wi (f.line + 1) } : FrV),()))
 else
 (aaz e.m 2 f.q.bottom f.u 0).bind fun r14 =>
 some (((⟨true,2,0⟩ : ResV),()),(({ e with m := r14.2.1 } : EnvV),f,()))
noncomputable abbrev aqW : Con SR1 := ⟨108,[.ref 12,.ref 8],[.val 10],fun x =>atA x.1 x.2.1⟩
noncomputable def aty : List (Nat × Func) := [(114,Tryz.f114),(151,Tryz.f151),(112,Tryz.f112),(117,Tryz.f117),(152,Tryz.f152),(116,Tryz.f116)]
theorem atz : CO Tryz.prog aqW := aaC aaB Tryz.func108 [acd] ⟨abR,trivial⟩ aty ⟨Tryz.func114,Tryz.func151,Tryz.func112,Tryz.func117,Tryz.func152,Tryz.func116,trivial⟩ (fun _ =>[]) [] fun x =>by kernel_rfl
noncomputable def akq (e : EnvV) (f : FrV) : Option ((ResV × Unit) × (EnvV × FrV × Unit)) :=
 if f.line = 1 then
  (aaz e.m 1 f.q.top 0 0).bind fun r1 =>
  some (((⟨false,0,0⟩ : ResV),()),(({ e with m := r1.2.1 } : EnvV),({ f with line := wi (f.line + 1),v := r1.1.1 } : FrV),()))
 else
 if f.line = 2 then
  (aaz e.m 1 f.q.bottom 0 0).bind fun r2 =>
  if (wi (wu (r2.1.1 - f.v))) ≤ 0 then
   some (((⟨true,2,0⟩ : ResV),()),(({ e with m := r2.2.1 } : EnvV),({ f with u := r2.1.1 } : FrV),()))
  else
  some (((⟨false,0,0⟩ : ResV),()),(({ e with m := r2.2.1 } : EnvV),({ f with line := wi (f.line + 1),u := r2.1.1 } : FrV),()))
 else
 if f.line = 3 then
  if f.q.cap < 1 then
   (aaz e.m 1 (-1) 0 0).bind fun r3 =>
   some (((⟨false,0,0⟩ : ResV),()),(({ e with m := r3.2.1 } : EnvV),({ f with line := wi (f.line + 1),w := r3.1.1 } : FrV),()))
  else
  if (wu (f.q.cap)) ≠ 0 then
   (aaz e.m 1 (wi (f.q.ring + (wi ((Int.tmod f.v (wu (f.q.cap))))))) 0 0).bind fun r4 =>
   some (((⟨false,0,0⟩ : ResV),()),(({ e with m := r4.2.1 } : EnvV),({ f with line := wi (f.line + 1),w := r4.1.1 } : FrV),()))
  else none
 else
 (aaz e.m 3 f.q.top f.v (wu (f.v + 1))).bind fun r5 =>
 if r5.1.2.1 = true then
  some (((⟨true,1,wi (f.w)⟩ : ResV),()),(({ e with m := r5.2.1 } : EnvV),f,()))
 else
 some (((⟨true,4,0⟩ : ResV),()),(({ e with m := r5.2.1 } : EnvV),f,()))
noncomputable abbrev alM : Con SR1 := ⟨109,[.ref 12,.ref 8],[.val 10],fun x =>akq x.1 x.2.1⟩
noncomputable def apm : List (Nat × Func) := [(114,Tryz.f114),(151,Tryz.f151),(112,Tryz.f112),(152,Tryz.f152),(116,Tryz.f116)]
theorem apn : CO Tryz.prog alM := aaC aaB Tryz.func109 [acd] ⟨abR,trivial⟩ apm ⟨Tryz.func114,Tryz.func151,Tryz.func112,Tryz.func152,Tryz.func116,trivial⟩ (fun _ =>[]) [] fun x =>by kernel_rfl
noncomputable def aft (e : EnvV) (f : FrV) : Option ((ResV × Unit) × (EnvV × FrV × Unit)) :=
 if f.line = 1 then
  (agI f.b).bind fun r1 =>
  if f.a = f.a then
   (aaz e.m 5 f.a (auB r1.1.1) 0).bind fun r2 =>
   some (((⟨false,0,0⟩ : ResV),()),(({ e with m := r2.2.1 } : EnvV),({ f with line := wi (f.line + 1) } : FrV),()))
  else none
 else
 if f.line = 2 then
  (aaz e.m 1 f.q.bottom 0 0).bind fun r3 =>
  some (((⟨false,0,0⟩ : ResV),()),(({ e with m := r3.2.1 } : EnvV),({ f with line := wi (f.line + 1),u := r3.1.1 } : FrV),()))
 else
 if f.line = 3 then
  (aaz e.m 1 f.q.top 0 0).bind fun r4 =>
  if (wi (wu (f.u - r4.1.1))) ≤ 0 then
   some (((⟨true,2,0⟩ : ResV),()),(({ e with m := r4.2.1 } : EnvV),({ f with v := r4.1.1 } : FrV),()))
  else
  some (((⟨false,0,0⟩ : ResV),()),(({ e with m := r4.2.1 } : EnvV),({ f with line := wi (f.line + 1),v := r4.1.1 } : FrV),()))
 else
 (agI f.b).bind fun r5 =>
 if f.a = f.a then
  (aaz e.m 4 f.a r5.1.1 0).bind fun r6 =>
  some (((⟨true,1,0⟩ : ResV),()),(({ e with m := r6.2.1 } : EnvV),f,()))
 else none
noncomputable abbrev ahP : Con SR1 := ⟨113,[.ref 12,.ref 8],[.val 10],fun x =>aft x.1 x.2.1⟩
noncomputable def akt : List (Nat × Func) := [(155,Tryz.f155),(114,Tryz.f114),(151,Tryz.f151),(112,Tryz.f112),(110,Tryz.f110)]
theorem aku : CO Tryz.prog ahP := aaC aaB Tryz.func113 [agH,acd] ⟨agG,abR,trivial⟩ akt ⟨Tryz.func155,Tryz.func114,Tryz.func151,Tryz.func112,Tryz.func110,trivial⟩ (fun _ =>[]) [] fun x =>by kernel_rfl
noncomputable def agx (e : EnvV) (f : FrV) : Option ((ResV × Unit) × (EnvV × FrV × Unit)) :=
 if f.line = 1 then
  (aaz e.m 1 2 0 0).bind fun r1 =>
  if e.c.heap ≤ (wi (r1.1.1)) then
   some (((⟨true,3,0⟩ : ResV),()),(({ e with m := r1.2.1 } : EnvV),({ f with n := wi (r1.1.1) } : FrV),()))
  else
  some (((⟨false,0,0⟩ : ResV),()),(({ e with m := r1.2.1 } : EnvV),({ f with line := wi (f.line + 1),n := wi (r1.1.1) } : FrV),()))
 else
 if f.line = 2 then
  (aaz e.m 6 3 1 0).bind fun r2 =>
  if f.b = f.b then
   if f.a = f.a then
   (aoq f.a (wi (r2.1.1)) f.b).bind fun r3 =>
   if (!r3.1.2.1) = true then
   some (((⟨true,4,0⟩ : ResV),()),(({ e with m := r2.2.1 } : EnvV),f,()))
   else
   if f.n ≤ 0 then
   some (((⟨false,0,0⟩ : ResV),()),(({ e with m := r2.2.1 } : EnvV),({ f with line := 5,i := f.n,w := r3.1.1 } : FrV),()))
   else
   some (((⟨false,0,0⟩ : ResV),()),(({ e with m := r2.2.1 } : EnvV),({ f with line := wi (f.line + 1),i := f.n,w := r3.1.1 } : FrV),()))
   else none
  else none
 else
 if f.line = 3 then
  (aeM e.c (wi (Int.tdiv (wi (f.i - 1)) 2))).bind fun r4 =>
  (aaz e.m 1 r4.1.1 0 0).bind fun r5 =>
  if r5.1.1 ≤ f.w then
   some (((⟨false,0,0⟩ : ResV),()),(({ e with m := r5.2.1 } : EnvV),({ f with line := 5,x := r5.1.1 } : FrV),()))
  else
  some (((⟨false,0,0⟩ : ResV),()),(({ e with m := r5.2.1 } : EnvV),({ f with line := wi (f.line + 1),x := r5.1.1 } : FrV),()))
 else
 if f.line = 4 then
  (aeM e.c f.i).bind fun r6 =>
  if f.x = f.x then
   (aaz e.m 2 r6.1.1 f.x 0).bind fun r7 =>
   if (wi (Int.tdiv (wi (f.i - 1)) 2)) ≤ 0 then
   some (((⟨false,0,0⟩ : ResV),()),(({ e with m := r7.2.1 } : EnvV),({ f with line := 5,i := wi (Int.tdiv (wi (f.i - 1)) 2) } : FrV),()))
   else
   some (((⟨false,0,0⟩ : ResV),()),(({ e with m := r7.2.1 } : EnvV),({ f with line := 3,i := wi (Int.tdiv (wi (f.i - 1)) 2) } : FrV),()))
  else none
 else
 if f.line = 5 then
  (aeM e.c f.i).bind fun r8 =>
  if f.w = f.w then
   (aaz e.m 2 r8.1.1 f.w 0).bind fun r9 =>
   some (((⟨false,0,0⟩ : ResV),()),(({ e with m := r9.2.1 } : EnvV),({ f with line := wi (f.line + 1) } : FrV),()))
  else none
 else
 (aaz e.m 2 2 (wu (wi (f.n + 1))) 0).bind fun r10 =>
 some (((⟨true,0,0⟩ : ResV),()),(({ e with m := r10.2.1 } : EnvV),f,()))
noncomputable abbrev ajB : Con SR1 := ⟨118,[.ref 12,.ref 8],[.val 10],fun x =>agx x.1 x.2.1⟩
noncomputable def am3 : List (Nat × Func) := [(114,Tryz.f114),(112,Tryz.f112),(158,Tryz.f158),(117,Tryz.f117)]
theorem am4 : CO Tryz.prog ajB := aaC aaB Tryz.func118 [acd,aop,akz] ⟨abR,aq9,alV,trivial⟩ am3 ⟨Tryz.func114,Tryz.func112,Tryz.func158,Tryz.func117,trivial⟩ (fun _ =>[]) [] fun x =>by kernel_rfl
noncomputable def aay (e : EnvV) (a : Int) (b : Int) (c : Int) (d : Int) (i : Int) : Option ((Unit) × (EnvV × Unit)) :=
 if (((e.evs.length + ([(⟨a,b,c,d,i⟩ : Ev)] : List Ev).length : Nat)) : Int) < 1000000000000 then
  some ((()),(({ e with evs := e.evs ++ ([(⟨a,b,c,d,i⟩ : Ev)]) } : EnvV),()))
 else none
noncomputable abbrev aa1 : Con SR1 := ⟨130,[.ref 12,.sh sI_,.sh sI_,.sh sI_,.sh sI_,.sh sI_],[],fun x =>aay x.1 x.2.1 x.2.2.1 x.2.2.2.1 x.2.2.2.2.1 x.2.2.2.2.2.1⟩
theorem aaZ : CO Tryz.prog aa1 := aaC aaB Tryz.func130 [] trivial [] trivial (fun _ =>[]) [] fun x =>by kernel_rfl
noncomputable def abc (f : FrV) : Option ((Int × Unit) × (FrV × Unit)) :=
 if f.w < f.v then
  some ((7,()),(f,()))
 else
 some ((8,()),(f,()))
noncomputable abbrev ajz : Con SR1 := ⟨162,[.ref 8],[.sh sI_],fun x =>abc x.1⟩
theorem am2 : CO Tryz.prog ajz := aaC aaB Tryz.func162 [] trivial [] trivial (fun _ =>[]) [] fun x =>by kernel_rfl
end
section
open Go
theorem anY {xs : List RecV} {i : Int} (h : 0 ≤ i ∧ i < (xs.length : Int)) : ws7 xs i = xs := by
 have h1 : i.toNat < xs.length := by omega
 have h2 : xs[i.toNat]? = some (aap xs i) := abZ h
 apply List.ext_getElem?
 intro j
 by_cases e : i.toNat = j
 ·subst e; show (xs.set i.toNat _)[i.toNat]? = _; rw [List.getElem?_set_self h1,h2]
 ·exact List.getElem?_set_ne e
section
variable {α β : Type} {o : Option α} {P Q : α → Prop} {x : α}
end
theorem aan (x : Int) : Rg (wi x) := by
 show -9223372036854775808 ≤ IntKind.i64.wrap x ∧ IntKind.i64.wrap x ≤ 9223372036854775807
 rw [IntKind.wrap_i64]; omega
theorem abA {σ β : Type} (F : (σ → Option β) → σ → Option β) (k : Nat) (x : σ) : lpF F (k + 1) x = F (lpF F k) x := rfl
def au3 (k old v w : Int) : Int := if k = 2 then v else if k = 3 then (if old = v then w else old) else if k = 4 then orU old v else if k = 5 then azZ old v else if k = 6 then wu (old + v) else old
def acc (m : MemV) (k a v w : Int) : (Int × Bool) × MemV :=
 if 0 ≤ a ∧ a < (m.cells.length : Int) then
  ((afS m.cells a,if k = 3 then decide (afS m.cells a = v) else true),⟨m.cells.set a.toNat (au3 k (afS m.cells a) v w),⟨k,a,afS m.cells a,au3 k (afS m.cells a) v w⟩,wi (m.count + 1)⟩)
 else ((0,false),m)
theorem aa6 (m : MemV) (k a v w : Int) : aaz m k a v w = some (((acc m k a v w).1.1,(acc m k a v w).1.2,()),((acc m k a v w).2,())) := by
 unfold aaz azg acc
 by_cases h0 : 0 ≤ a
 ·by_cases h1 : a < (m.cells.length : Int)
  ·simp only [h0,h1,if_true,Option.bind_some,decide_true,Bool.not_true,Bool.false_eq_true,if_false,and_self]
   by_cases k2 : k = 2
   ·subst k2; simp [au3]
   by_cases k3 : k = 3
   ·subst k3
    by_cases hv : afS m.cells a = v <;> simp [au3,hv]
   by_cases k4 : k = 4
   ·subst k4; simp [au3]
   by_cases k5 : k = 5
   ·subst k5; simp [au3]
   by_cases k6 : k = 6
   ·subst k6; simp [au3]
   simp [au3,k2,k3,k4,k5,k6]
  ·simp [h0,h1]
 ·simp [h0]
theorem aw7 (m : MemV) (k a v w : Int) : (acc m k a v w).2.cells.length = m.cells.length := by
 unfold acc; split <;> simp
theorem ayO {m : MemV} {k a v w : Int} (h : (acc m k a v w).1.2 = true) : 0 ≤ a ∧ a < (m.cells.length : Int) := by
 unfold acc at h; split at h
 ·assumption
 ·cases h
def ixA (a b c d : Int) : Int := if b < 0 then -1 else if c ≤ b then -1 else wi (a + wi (b * d))
theorem aec (a b c d : Int) : ae7 a b c d = some ((ixA a b c d,()),()) := by
 unfold ae7 ixA; split
 ·rfl
 ·split <;> rfl
def dqA (c : Cfg) : Int := wi ((wi ((wi (4 + c.heap)) + c.classes)) + (wi (2 * c.workers)))
theorem af8 (c : Cfg) : agE c = some ((dqA c,()),()) := rfl
def azh (c : Cfg) (a b : Int) : Int := wi (dqA c + (wi ((wi ((wi (a * c.levels)) + b)) * (wi (2 + c.deque)))))
def agJ (c : Cfg) (a b : Int) : QV := if a < 0 then ⟨-1,-1,-1,0⟩ else if c.workers ≤ a then ⟨-1,-1,-1,0⟩ else if b < 0 then ⟨-1,-1,-1,0⟩ else if c.levels ≤ b then ⟨-1,-1,-1,0⟩ else ⟨azh c a b,wi (azh c a b + 1),wi (azh c a b + 2),c.deque⟩
theorem aaJ (c : Cfg) (a b : Int) : ad0 c a b = some ((agJ c a b,()),()) := by
 unfold ad0 agJ
 simp only [af8,Option.bind_some,if_true]
 repeat' split
 all_goals rfl
def aaK (c : Cfg) (a b : Int) : Int := if ixA (wi (dqA c + (wi ((wi (c.workers * c.levels)) * (wi (2 + c.deque)))))) a c.tasks 5 < 0 then -1 else wi (ixA (wi (dqA c + (wi ((wi (c.workers * c.levels)) * (wi (2 + c.deque)))))) a c.tasks 5 + b)
theorem ae5 (c : Cfg) (a b : Int) : ahS c a b = some ((aaK c a b,()),()) := by
 unfold ahS aaK
 simp only [af8,aec,Option.bind_some,if_true]
 repeat' split
 all_goals rfl
theorem aa8 (c : Cfg) (a : Int) : aeM c a = some ((ixA 4 a c.heap 1,()),()) := by unfold aeM; simp only [aec,Option.bind_some]
theorem aaT (c : Cfg) (a : Int) : acP c a = some ((aaK c a 0,()),()) := by unfold acP; simp only [ae5,Option.bind_some]
theorem aaV (c : Cfg) (a : Int) : acQ c a = some ((aaK c a 1,()),()) := by unfold acQ; simp only [ae5,Option.bind_some]
theorem aa9 (c : Cfg) (a : Int) : ajI c a = some ((aaK c a 2,()),()) := by unfold ajI; simp only [ae5,Option.bind_some]
theorem aaS (c : Cfg) (a : Int) : af6 c a = some ((aaK c a 3,()),()) := by unfold af6; simp only [ae5,Option.bind_some]
theorem aaU (c : Cfg) (a : Int) : adZ c a = some ((aaK c a 4,()),()) := by unfold adZ; simp only [ae5,Option.bind_some]
def abu (c : Cfg) (a : Int) : Int := ixA (wi ((wi ((wi (4 + c.heap)) + c.classes)) + c.workers)) a c.workers 1
theorem aav (c : Cfg) (a : Int) : acy c a = some ((abu c a,()),()) := by unfold acy; simp only [aec,Option.bind_some]; rfl
def asD (c : Cfg) : Int := wi ((wi (dqA c + (wi ((wi (c.workers * c.levels)) * (wi (2 + c.deque)))))) + (wi (5 * c.tasks)))
theorem apD (c : Cfg) : aiC c = some ((asD c,()),()) := by unfold aiC; simp only [af8,Option.bind_some,if_true]; rfl
theorem aaw (c : Cfg) (a : Int) : adt c a = some ((ixA (wi (4 + c.heap)) a c.classes 1,()),()) := by unfold adt; simp only [aec,Option.bind_some]
theorem aaW (c : Cfg) (a : Int) : ahk c a = some ((ixA (wi ((wi (4 + c.heap)) + c.classes)) a c.workers 1,()),()) := by unfold ahk; simp only [aec,Option.bind_some]
theorem as9 {c : Cfg} {t k : Int} (h : 0 ≤ aaK c t k) : 0 ≤ t ∧ t < c.tasks := by
 unfold aaK at h
 split at h
 ·omega
 ·rename_i h1
  unfold ixA at h1
  repeat' split at h1
  all_goals omega
def ani (n : Nat) (y : Int) : Int := match n with
 | 0 =>y
 | n + 1 =>ani n (wu (y * 2))
theorem ajO {F : (Int × Int × Unit → Option (Int × Int × Unit)) → Int × Int × Unit → Option (Int × Int × Unit)} (hF : F = fun self x =>if 0 < x.1 then self (wi (x.1 - 1),wu (x.2.1 * 2),()) else some (x.1,x.2.1,())) : ∀ (n k : Nat) (y : Int),n ≤ 64 → n < k → lpF F k ((n : Int),y,()) = some (0,ani n y,())
 | 0,k + 1,y,_,_ =>by rw [abA,congrFun (congrFun hF _) _]; simp [ani]
 | n + 1,k + 1,y,hn,hk =>by
  rw [abA,congrFun (congrFun hF _) _]
  have e : wi (((n + 1 : Nat) : Int) - 1) = (n : Int) := by rw [aa7 (aab (by omega))]; omega
  simp only [e]
  rw [if_pos (by omega)]
  exact ajO hF n k _ (by omega) (by omega)
theorem acZ {a : Int} (h0 : 0 ≤ a) (h1 : a ≤ 64) : adE a = some ((ani a.toNat 1,()),()) := by
 unfold adE
 have := ajO rfl a.toNat 18446744073709551616 1 (by omega) (by omega)
 rw [show ((a.toNat : Nat) : Int) = a by omega] at this
 rw [this]; rfl
theorem arn : (List.range 64).all (fun k =>decide (ani k 1 = 2 ^ k)) = true := by decide +kernel
theorem av5 {k : Nat} (h : k < 64) : ani k 1 = 2 ^ k := by
 have := List.all_eq_true.1 arn k (by simp; omega)
 simpa using this
theorem aiG {k : Nat} (h : k < 64) : ani k 1 ≠ 0 := by
 rw [av5 h]
 have : (0 : Int) < 2 ^ k := Int.pow_pos (by omega)
 omega
def avh (a b : Int) : Bool := if 0 ≤ b ∧ b < 64 then decide (Int.tmod (wu (Int.tdiv a (ani b.toNat 1))) 2 = 1) else false
theorem abn (a b : Int) : al0 a b = some ((avh a b,()),()) := by
 unfold al0 avh
 by_cases h0 : 0 ≤ b
 ·by_cases h1 : b < 64
  ·simp only [h0,h1,if_true,and_self,acZ h0 (by omega : b ≤ 64),Option.bind_some]
   rw [if_pos (aiG (by omega))]
  ·simp [h0,h1]
 ·simp [h0]
def aiL (a : Int) : Int := if 0 ≤ a ∧ a ≤ 63 then ani a.toNat 1 else 0
theorem aaM (a : Int) : agI a = some ((aiL a,()),()) := by
 unfold agI aiL
 by_cases h0 : a < 0
 ·rw [if_pos h0,if_neg (by omega)]
 ·rw [if_neg h0]
  by_cases h1 : 63 < a
  ·rw [if_pos h1,if_neg (by omega)]
  ·rw [if_neg h1,if_pos (by omega),acZ (by omega) (by omega)]; rfl
def apJ (a b c : Int) : Int × Bool := if a < 0 ∨ 16777215 < a ∨ b < 0 ∨ 16777215 < b ∨ c < 0 ∨ 65535 < c then (0,false) else (wu ((wu ((wu ((wu ((wu (a)) * ani 24 1)) + (wu (b)))) * ani 16 1)) + (wu (c))),true)
theorem aba (a b c : Int) : aoq a b c = some (((apJ a b c).1,(apJ a b c).2,()),()) := by
 unfold aoq apJ
 simp only [acZ (show (0 : Int) ≤ 24 by omega) (by omega),acZ (show (0 : Int) ≤ 16 by omega) (by omega),Option.bind_some]
 repeat' split
 all_goals first | rfl | omega
def adX (a : Int) : Int × Int × Int := (wi (wu (Int.tdiv a (ani 40 1))),wi ((Int.tmod (wu (Int.tdiv a (ani 16 1))) (ani 24 1))),wi ((Int.tmod a (ani 16 1))))
theorem aaG (a : Int) : aid a = some (((adX a).1,(adX a).2.1,(adX a).2.2,()),()) := by
 unfold aid adX
 simp only [acZ (show (0 : Int) ≤ 24 by omega) (by omega),acZ (show (0 : Int) ≤ 16 by omega) (by omega),acZ (show (0 : Int) ≤ 40 by omega) (by omega),Option.bind_some]
 rw [if_pos (aiG (by decide)),if_pos (aiG (by decide)),if_pos (aiG (by decide)),if_pos (aiG (by decide))]
 rfl
def akU (a : Int) : Nat → Int
 | 0 =>-1
 | n + 1 =>if avh a n = true then n else akU a n
def agj (a : Int) : Int := akU a 64
theorem amj {a : Int} {F : (Int × Unit → Option ((Int × Unit) ⊕ ((Int × Unit) × Unit))) → Int × Unit → Option ((Int × Unit) ⊕ ((Int × Unit) × Unit))}
  (hF : F = fun self x =>if 0 ≤ x.1 then (al0 a x.1).bind fun r =>if r.1.1 = true then Option.map Sum.inr (some ((x.1,()),())) else self (wi (x.1 - 1),()) else some (Sum.inl (x.1,()))) :
  ∀ (n k : Nat),n ≤ 64 → n < k → ((lpF F k ((n : Int) - 1,())).bind fun z =>match z with | .inr o =>some o | .inl _ =>some ((((-1 : Int),()),()) : (Int × Unit) × Unit)) = some ((akU a n,()),())
 | 0,k + 1,_,_ =>by rw [abA,congrFun (congrFun hF _) _]; rfl
 | n + 1,k + 1,hn,hk =>by
  rw [abA,congrFun (congrFun hF _) _]
  have e : (((n + 1 : Nat) : Int) - 1) = (n : Int) := by omega
  have e2 : wi ((n : Int) - 1) = (n : Int) - 1 := aa7 (aab (by omega))
  simp only [e,abn,Option.bind_some,e2]
  rw [if_pos (by omega)]
  by_cases hb : avh a n = true
  ·simp [hb,akU]
  ·simp only [hb,Bool.false_eq_true,if_false,akU]
   exact amj hF n k (by omega) (by omega)
theorem aaN (a : Int) : ahT a = some ((agj a,()),()) := by
 unfold ahT
 exact amj (a := a) rfl 64 18446744073709551616 (by omega) (by omega)
theorem aoK (a : Int) : ∀ n : Nat,n ≤ 64 → -1 ≤ akU a n ∧ akU a n < n
 | 0,_ =>by simp [akU]
 | n + 1,h =>by
  have := aoK a n (by omega)
  unfold akU; split <;> omega
theorem auj (a : Int) : -1 ≤ agj a ∧ agj a ≤ 63 := by
 have := aoK a 64 (by omega)
 unfold agj; omega
def at8 (a : Int) : Nat → Int
 | 0 =>-1
 | n + 1 =>if avh a ((63 - n : Nat) : Int) = true then ((63 - n : Nat) : Int) else at8 a n
def awn (a : Int) : Int := at8 a 64
theorem aoA {a : Int} {F : (Int × Int × Unit → Option ((Int × Int × Unit) ⊕ ((Int × Unit) × Unit))) → Int × Int × Unit → Option ((Int × Int × Unit) ⊕ ((Int × Unit) × Unit))}
  (hF : F = fun self x =>if x.2.1 < 64 then (al0 a x.2.1).bind fun r =>if (!r.1.1) = true then self (x.1,wi (x.2.1 + 1),()) else if x.1 = 0 then Option.map Sum.inr (some ((x.2.1,()),())) else self (wi (x.1 - 1),wi (x.2.1 + 1),()) else some (Sum.inl (x.1,x.2.1,()))) :
  ∀ (n k : Nat),n ≤ 64 → n < k → ((lpF F k (0,((64 - n : Nat) : Int),())).bind fun z =>match z with | .inr o =>some o | .inl _ =>some ((((-1 : Int),()),()) : (Int × Unit) × Unit)) = some ((at8 a n,()),())
 | 0,k + 1,_,_ =>by rw [abA,congrFun (congrFun hF _) _]; rfl
 | n + 1,k + 1,hn,hk =>by
  rw [abA,congrFun (congrFun hF _) _]
  have e : (((64 - (n + 1) : Nat)) : Int) = ((63 - n : Nat) : Int) := by omega
  have e2 : wi (((63 - n : Nat) : Int) + 1) = ((64 - n : Nat) : Int) := by rw [aa7 (aab (by omega))]; omega
  simp only [e,abn,Option.bind_some,e2]
  rw [if_pos (by omega)]
  by_cases hb : avh a ((63 - n : Nat) : Int) = true
  ·simp [hb,at8]
  ·have hb' : avh a ((63 - n : Nat) : Int) = false := by simpa using hb
   simp only [hb',Bool.not_false,if_true,at8,Bool.false_eq_true,if_false]
   exact aoA hF n k (by omega) (by omega)
theorem abz (a : Int) : atK a = some ((awn a,()),()) := by
 unfold atK
 have : atI a 0 = some ((awn a,()),()) := by
  unfold atI
  exact aoA (a := a) rfl 64 18446744073709551616 (by omega) (by omega)
 rw [this]; rfl
theorem arG (a : Int) : ∀ n : Nat,n ≤ 64 → -1 ≤ at8 a n ∧ at8 a n < 64
 | 0,_ =>by simp [at8]
 | n + 1,h =>by
  have := arG a n (by omega)
  unfold at8; split <;> omega
theorem awm (a : Int) : -1 ≤ awn a ∧ awn a ≤ 63 := by
 have := arG a 64 (by omega)
 unfold awn; omega
def abV (a b : Int) : Int := if b < 1 then 0 else if Int.tmod a b < 0 then wi (Int.tmod a b + b) else Int.tmod a b
theorem aa2 (a b : Int) : agF a b = some ((abV a b,()),()) := by
 unfold agF abV
 by_cases h : b < 1
 ·rw [if_pos h,if_pos h]
 ·rw [if_neg h,if_neg h]
  have hb : b ≠ 0 := by omega
  rw [if_pos hb]
  by_cases h2 : Int.tmod a b < 0
  ·rw [if_pos h2,if_pos h2,if_pos hb]
  ·rw [if_neg h2,if_neg h2,if_pos hb]
theorem ak6 {a b : Int} (h1 : 1 ≤ b) (h2 : b ≤ 1000000000000) : 0 ≤ abV a b ∧ abV a b < b := by
 unfold abV
 have h3 := Int.tmod_lt_of_pos a (b := b) (by omega)
 have h4 := Int.lt_tmod_of_pos a (b := b) (by omega)
 rw [if_neg (by omega)]
 split
 ·rw [aa7 (aab (by omega))]; omega
 ·omega
theorem ash {a b : Int} (h2 : b ≤ 1000000000000) : Rg (abV a b) := by
 by_cases h : 1 ≤ b
 ·have := ak6 (a := a) h h2; exact aab (by omega)
 ·unfold abV; rw [if_pos (by omega)]; exact aab (by omega)
def asy (a b c : Int) : Int := if b < 1 ∨ 64 < b ∨ a < 0 ∨ b ≤ a ∨ c < 1 ∨ 8 < c then 0 else wi (Int.tdiv (wi (a * c)) b)
theorem aaX (a b c : Int) : akC a b c = some ((asy a b c,()),()) := by
 unfold akC asy
 repeat' split
 all_goals first | rfl | omega
theorem akd {a b : Int} (h1 : 1 ≤ b) (h2 : b ≤ 1000000000000) : Rg (Int.tmod a b) := by
 have h3 := Int.tmod_lt_of_pos a (b := b) (by omega)
 have h4 := Int.lt_tmod_of_pos a (b := b) (by omega)
 exact aab (by omega)
def EnvV.ac (e : EnvV) (k a v w : Int) : EnvV := { e with m := (acc e.m k a v w).2 }
def EnvV.rd (e : EnvV) (k a v w : Int) : Int := (acc e.m k a v w).1.1
def EnvV.hit (e : EnvV) (k a v w : Int) : Bool := (acc e.m k a v w).1.2
def EnvV.em (e : EnvV) (k w t o l : Int) : EnvV := { e with evs := e.evs ++ [⟨k,w,t,o,l⟩] }
def EnvV.rc (e : EnvV) (t : Int) : RecV := aap e.recs t
def EnvV.put (e : EnvV) (t : Int) (r : RecV) : EnvV := { e with recs := e.recs.set t.toNat r }
def abP (e : EnvV) (t : Int) : Prop := 0 ≤ t ∧ t < e.c.tasks ∧ t < (e.recs.length : Int)
instance (e : EnvV) (t : Int) : Decidable (abP e t) := inferInstanceAs (Decidable (_ ∧ _ ∧ _))
def EnvV.prog (e : EnvV) (t : Int) : List Ins := if (e.rc t).prog < 0 ∨ (e.c.progs.length : Int) ≤ (e.rc t).prog then [] else atL [] e.c.progs (e.rc t).prog
def EnvV.ins (e : EnvV) (t : Int) : Ins := acv (e.prog t) (e.rc t).pc
abbrev Lf := ResV × EnvV × FrV
def go (e : EnvV) (f : FrV) : Lf := (⟨false,0,0⟩,e,f)
def fin (c v : Int) (e : EnvV) (f : FrV) : Lf := (⟨true,c,v⟩,e,f)
def adc (o : Lf) : (ResV × Unit) × (EnvV × FrV × Unit) := ((o.1,()),(o.2.1,o.2.2,()))
def adn (q : QV) (i : Int) : Int := if q.cap < 1 then -1 else wi (q.ring + wi (Int.tmod i (wu q.cap)))
def szV (b t : Int) : Int := wi (wu (b - t))
abbrev EnvV.ld (e : EnvV) (a : Int) : Int := e.rd 1 a 0 0
abbrev EnvV.lm (e : EnvV) (a : Int) : EnvV := e.ac 1 a 0 0
abbrev EnvV.sm (e : EnvV) (a v : Int) : EnvV := e.ac 2 a v 0
def ab5 (c : Cfg) (a : Int) : Int := ixA (wi ((wi (4 + c.heap)) + c.classes)) a c.workers 1
def acp (c : Cfg) (a : Int) : Int := ixA (wi (4 + c.heap)) a c.classes 1
def abW (c : Cfg) (a : Int) : Int := ixA 4 a c.heap 1
def ard (e : EnvV) (f : FrV) : Lf :=
 if f.line = 1 then go (e.lm f.q.bottom) { f with line := 2,u := e.ld f.q.bottom }
 else if f.line = 2 then
  if f.q.cap ≤ szV f.u (e.ld f.q.top) then fin 3 0 (e.lm f.q.top) { f with v := e.ld f.q.top } else go (e.lm f.q.top) { f with line := 3,v := e.ld f.q.top }
 else if f.line = 3 then go (e.sm (adn f.q f.u) (wu f.a)) { f with line := 4 }
 else fin 0 0 (e.sm f.q.bottom (wu (f.u + 1))) f
def axJ (e : EnvV) (f : FrV) : Lf :=
 if f.line = 1 then go (e.lm f.q.bottom) { f with line := 2,u := e.ld f.q.bottom }
 else if f.line = 2 then
  if szV f.u (e.ld f.q.top) ≤ 0 then fin 2 0 (e.lm f.q.top) { f with v := e.ld f.q.top } else go (e.lm f.q.top) { f with line := 3,v := e.ld f.q.top }
 else if f.line = 3 then go (e.sm f.q.bottom (wu (f.u - 1))) { f with line := 4 }
 else if f.line = 4 then
  if szV (wu (f.u - 1)) (e.ld f.q.top) = 0 then go (e.lm f.q.top) { f with line := 6,v := e.ld f.q.top }
  else if szV (wu (f.u - 1)) (e.ld f.q.top) < 0 then go (e.lm f.q.top) { f with line := 9,v := e.ld f.q.top }
  else go (e.lm f.q.top) { f with line := 5,v := e.ld f.q.top }
 else if f.line = 5 ∨ f.line = 8 then fin 1 (wi (e.ld (adn f.q (wu (f.u - 1))))) (e.lm (adn f.q (wu (f.u - 1)))) f
 else if f.line = 6 then
  if e.hit 3 f.q.top f.v (wu (f.v + 1)) = true then go (e.ac 3 f.q.top f.v (wu (f.v + 1))) { f with line := 7 } else go (e.ac 3 f.q.top f.v (wu (f.v + 1))) { f with line := 9 }
 else if f.line = 7 then go (e.sm f.q.bottom f.u) { f with line := 8 }
 else fin 2 0 (e.sm f.q.bottom f.u) f
def alu (e : EnvV) (f : FrV) : Lf :=
 if f.line = 1 then go (e.lm f.q.top) { f with line := 2,v := e.ld f.q.top }
 else if f.line = 2 then
  if szV (e.ld f.q.bottom) f.v ≤ 0 then fin 2 0 (e.lm f.q.bottom) { f with u := e.ld f.q.bottom } else go (e.lm f.q.bottom) { f with line := 3,u := e.ld f.q.bottom }
 else if f.line = 3 then go (e.lm (adn f.q f.v)) { f with line := 4,w := e.ld (adn f.q f.v) }
 else if e.hit 3 f.q.top f.v (wu (f.v + 1)) = true then fin 1 (wi f.w) (e.ac 3 f.q.top f.v (wu (f.v + 1))) f else fin 4 0 (e.ac 3 f.q.top f.v (wu (f.v + 1))) f
def amx (e : EnvV) (f : FrV) : Lf :=
 if f.line = 1 then go (e.ac 5 f.a (auB (aiL f.b)) 0) { f with line := 2 }
 else if f.line = 2 then go (e.lm f.q.bottom) { f with line := 3,u := e.ld f.q.bottom }
 else if f.line = 3 then
  if szV f.u (e.ld f.q.top) ≤ 0 then fin 2 0 (e.lm f.q.top) { f with v := e.ld f.q.top } else go (e.lm f.q.top) { f with line := 4,v := e.ld f.q.top }
 else fin 1 0 (e.ac 4 f.a (aiL f.b) 0) f
def aiU (e : EnvV) (f : FrV) : Lf :=
 if f.line = 1 then
  if e.c.heap ≤ wi (e.ld 2) then fin 3 0 (e.lm 2) { f with n := wi (e.ld 2) } else go (e.lm 2) { f with line := 2,n := wi (e.ld 2) }
 else if f.line = 2 then
  if (apJ f.a (wi (e.rd 6 3 1 0)) f.b).2 = true then
   if f.n ≤ 0 then go (e.ac 6 3 1 0) { f with line := 5,i := f.n,w := (apJ f.a (wi (e.rd 6 3 1 0)) f.b).1 } else go (e.ac 6 3 1 0) { f with line := 3,i := f.n,w := (apJ f.a (wi (e.rd 6 3 1 0)) f.b).1 }
  else fin 4 0 (e.ac 6 3 1 0) f
 else if f.line = 3 then
  if e.ld (abW e.c (wi (Int.tdiv (wi (f.i - 1)) 2))) ≤ f.w then go (e.lm (abW e.c (wi (Int.tdiv (wi (f.i - 1)) 2)))) { f with line := 5,x := e.ld (abW e.c (wi (Int.tdiv (wi (f.i - 1)) 2))) }
  else go (e.lm (abW e.c (wi (Int.tdiv (wi (f.i - 1)) 2)))) { f with line := 4,x := e.ld (abW e.c (wi (Int.tdiv (wi (f.i - 1)) 2))) }
 else if f.line = 4 then
  if wi (Int.tdiv (wi (f.i - 1)) 2) ≤ 0 then go (e.sm (abW e.c f.i) f.x) { f with line := 5,i := wi (Int.tdiv (wi (f.i - 1)) 2) } else go (e.sm (abW e.c f.i) f.x) { f with line := 3,i := wi (Int.tdiv (wi (f.i - 1)) 2) }
 else if f.line = 5 then go (e.sm (abW e.c f.i) f.w) { f with line := 6 }
 else fin 0 0 (e.sm 2 (wu (wi (f.n + 1)))) f
def abU (f : FrV) : Int := if f.w < f.v then 7 else 8
def air (e : EnvV) (f : FrV) : Lf :=
 if f.line = 1 then
  if wi (e.ld 2) ≤ 0 then fin 2 0 (e.lm 2) { f with n := wi (e.ld 2) } else go (e.lm 2) { f with line := 2,n := wi (e.ld 2) }
 else if f.line = 2 then go (e.lm (abW e.c 0)) { f with line := 3,u := e.ld (abW e.c 0) }
 else if f.line = 3 then go (e.lm (abW e.c (wi (f.n - 1)))) { f with line := 4,v := e.ld (abW e.c (wi (f.n - 1))) }
 else if f.line = 4 then
  if f.n = 1 then fin 1 (adX f.u).2.2 ((e.sm 2 (wu (wi (f.n - 1)))).em 13 f.a (adX f.u).2.2 0 0) f
  else if 1 < wi (f.n - 1) then go ((e.sm 2 (wu (wi (f.n - 1)))).em 13 f.a (adX f.u).2.2 0 0) { f with line := 5,i := 0 }
  else go ((e.sm 2 (wu (wi (f.n - 1)))).em 13 f.a (adX f.u).2.2 0 0) { f with line := 8,i := 0 }
 else if f.line = 5 then
  if wi (f.n - 1) ≤ wi (wi (2 * f.i) + 2) then go (e.lm (abW e.c (wi (wi (2 * f.i) + 1)))) { f with line := abU { f with w := e.ld (abW e.c (wi (wi (2 * f.i) + 1))) },j := wi (wi (2 * f.i) + 1),w := e.ld (abW e.c (wi (wi (2 * f.i) + 1))) }
  else go (e.lm (abW e.c (wi (wi (2 * f.i) + 1)))) { f with line := 6,j := wi (wi (2 * f.i) + 1),w := e.ld (abW e.c (wi (wi (2 * f.i) + 1))) }
 else if f.line = 6 then
  if e.ld (abW e.c (wi (wi (2 * f.i) + 2))) < f.w then go (e.lm (abW e.c (wi (wi (2 * f.i) + 2)))) { f with line := abU { f with w := e.ld (abW e.c (wi (wi (2 * f.i) + 2))) },j := wi (wi (2 * f.i) + 2),w := e.ld (abW e.c (wi (wi (2 * f.i) + 2))) }
  else go (e.lm (abW e.c (wi (wi (2 * f.i) + 2)))) { f with line := abU f }
 else if f.line = 7 then
  if wi (wi (2 * f.j) + 1) < wi (f.n - 1) then go (e.sm (abW e.c f.i) f.w) { f with line := 5,i := f.j } else go (e.sm (abW e.c f.i) f.w) { f with line := 8,i := f.j }
 else fin 1 (adX f.u).2.2 (e.sm (abW e.c f.i) f.v) f
def aj1 (e : EnvV) (f : FrV) : Lf :=
 if e.hit 3 (aaK e.c f.b 0) 1 2 = true then
  fin 1 f.b ((((e.ac 3 (aaK e.c f.b 0) 1 2).put f.b { e.rc f.b with started := true })).em (if (e.rc f.b).started = true then 9 else 5) f.a f.b 0 0) f
 else fin 4 0 ((e.ac 3 (aaK e.c f.b 0) 1 2).em 15 f.a f.b 0 0) f
def ag7 (e : EnvV) (f : FrV) : Lf :=
 if abP e (wi (e.rd 6 0 1 0)) then fin 1 (wi (e.rd 6 0 1 0)) (e.ac 6 0 1 0) f else fin 3 0 (e.ac 6 0 1 0) f
def agK (e : EnvV) (f : FrV) : Lf :=
 if ¬ abP e f.a then fin 4 0 e f
 else if f.line = 1 then go (e.sm (aaK e.c f.a 1) (wu f.b)) { f with line := 2 }
 else if f.line = 2 then go (e.sm (aaK e.c f.a 4) (wu e.now)) { f with line := 3 }
 else fin 0 0 (e.sm (aaK e.c f.a 0) 1) f
def ai2 (e : EnvV) (f : FrV) : Lf :=
 if ¬ abP e f.b then fin 4 0 e f
 else if f.line = 1 then go (e.sm (aaK e.c f.b 4) (wu e.now)) { f with line := 2 }
 else if f.line = 2 then go (e.sm (aaK e.c f.b 0) 1) { f with line := 3 }
 else go (e.lm (aaK e.c f.b 1)) { f with line := wi (f.line + 1),t := wi (e.ld (aaK e.c f.b 1)) }
def alJ (e : EnvV) (f : FrV) : Lf :=
 if ¬ abP e f.b ∨ f.d < 0 ∨ e.c.levels ≤ f.d then fin 4 0 e f
 else if f.line = 1 then
  if f.d ≤ wi (e.ld (aaK e.c f.b 1)) then fin 0 0 (e.lm (aaK e.c f.b 1)) { f with u := e.ld (aaK e.c f.b 1) } else go (e.lm (aaK e.c f.b 1)) { f with line := 2,u := e.ld (aaK e.c f.b 1) }
 else if e.hit 3 (aaK e.c f.b 1) f.u (wu f.d) = true then fin 1 0 ((e.ac 3 (aaK e.c f.b 1) f.u (wu f.d)).em 11 f.a f.b 0 f.d) f
 else go (e.ac 3 (aaK e.c f.b 1) f.u (wu f.d)) { f with line := 1 }
def aqf (e : EnvV) (f : FrV) : Lf :=
 if ¬ abP e f.b ∨ f.d < 0 ∨ e.c.levels ≤ f.d then fin 4 0 e f
 else if f.line = 2 then
  if e.ld (aaK e.c f.b 0) = 1 then go (e.lm (aaK e.c f.b 0)) { f with line := 3 } else go (e.lm (aaK e.c f.b 0)) { f with line := 4 }
 else if e.ld (aaK e.c f.b 3) = 0 then fin 0 0 (e.lm (aaK e.c f.b 3)) f
 else go (e.lm (aaK e.c f.b 3)) { f with line := 1,b := wi (wu (e.ld (aaK e.c f.b 3) - 1)) }
def als (e : EnvV) (f : FrV) : Lf :=
 if ¬ abP e f.b ∨ e.c.age = 0 then fin 0 0 e f
 else if f.line = 1 then
  if e.ld (aaK e.c f.b 0) = 1 then go (e.lm (aaK e.c f.b 0)) { f with line := 2 } else fin 0 0 (e.lm (aaK e.c f.b 0)) f
 else if f.line = 2 then
  if wi (e.now - wi (e.ld (aaK e.c f.b 4))) < e.c.age then fin 0 0 (e.lm (aaK e.c f.b 4)) f else go (e.lm (aaK e.c f.b 4)) { f with line := 3 }
 else if f.line = 3 then
  if wi (e.c.levels - 1) ≤ wi (e.ld (aaK e.c f.b 1)) then fin 0 0 (e.lm (aaK e.c f.b 1)) { f with t := wi (wi (e.ld (aaK e.c f.b 1)) + 1),u := e.ld (aaK e.c f.b 1) }
  else go (e.lm (aaK e.c f.b 1)) { f with line := 4,t := wi (wi (e.ld (aaK e.c f.b 1)) + 1),u := e.ld (aaK e.c f.b 1) }
 else if f.line = 4 then
  if e.hit 3 (aaK e.c f.b 1) f.u (wu (f.u + 1)) = true then go ((e.ac 3 (aaK e.c f.b 1) f.u (wu (f.u + 1))).em 12 f.a f.b 0 f.t) { f with line := 5 } else fin 4 0 (e.ac 3 (aaK e.c f.b 1) f.u (wu (f.u + 1))) f
 else go (e.sm (aaK e.c f.b 4) (wu e.now)) { f with line := wi (f.line + 1) }
def alw (e : EnvV) (f : FrV) : Lf :=
 if f.line = 1 then go (e.lm (ab5 e.c f.a)) { f with line := 2,u := e.ld (ab5 e.c f.a) }
 else if f.line = 2 then go (e.ac 4 (acp e.c (abV f.a e.c.classes)) (aiL f.a) 0) { f with line := 3 }
 else if f.line = 3 then
  if e.ld 2 = 0 then go (e.lm 2) { f with line := 4,n := 0 } else go (e.lm 2) { f with line := 7,n := 0 }
 else if f.line = 4 then
  if e.ld (abu e.c f.n) = 0 then
   if wi (f.n + 1) < e.c.workers then go (e.lm (abu e.c f.n)) { f with line := 4,n := wi (f.n + 1) }
   else go ((e.lm (abu e.c f.n)).em 16 f.a 0 0 0) { f with line := 5,n := wi (f.n + 1),t := e.now }
  else go (e.lm (abu e.c f.n)) { f with line := 7,n := wi (f.n + 1) }
 else if f.line = 5 then
  if e.ld (ab5 e.c f.a) = f.u then
   if e.c.patience ≤ wi (e.now - f.t) then go ((e.lm (ab5 e.c f.a)).em 17 f.a 0 2 0) { f with line := 6 } else go (e.lm (ab5 e.c f.a)) { f with line := 5 }
  else go ((e.lm (ab5 e.c f.a)).em 17 f.a 0 1 0) { f with line := 6 }
 else if f.line = 6 then fin 1 0 (e.ac 5 (acp e.c (abV f.a e.c.classes)) (auB (aiL f.a)) 0) f
 else fin 5 0 (e.ac 5 (acp e.c (abV f.a e.c.classes)) (auB (aiL f.a)) 0) f
def acX (e : EnvV) (f : FrV) : Int := acp e.c (abV (wi (asy f.b e.c.levels e.c.classes + f.j)) e.c.classes)
def aqi (e : EnvV) (f : FrV) : Lf :=
 if f.line = 1 then
  if e.ld (acX e f) = 0 then
   if e.c.classes ≤ wi (f.j + 1) then fin 2 0 (e.lm (acX e f)) { f with j := wi (f.j + 1) } else go (e.lm (acX e f)) { f with j := wi (f.j + 1) }
  else go (e.lm (acX e f)) { f with line := 2,n := awn (e.ld (acX e f)) }
 else if f.line = 2 then
  if avh (e.rd 5 (acX e f) (auB (aiL f.n)) 0) f.n = true then go (e.ac 5 (acX e f) (auB (aiL f.n)) 0) { f with line := 3 } else fin 4 0 (e.ac 5 (acX e f) (auB (aiL f.n)) 0) f
 else fin 1 f.n ((e.ac 6 (ab5 e.c f.n) 1 0).em 18 f.a 0 f.n 0) f
def ams (e : EnvV) (f : FrV) : Lf :=
 if f.line = 1 then
  if wi (e.ld 2) ≤ 0 then fin 2 0 (e.lm 2) f else go (e.lm 2) { f with line := 2 }
 else go (e.lm (aaK e.c f.n 1)) { f with line := 5,t := wi (e.ld (aaK e.c f.n 1)) }
def aaQ (l : List Int) : Int := l.getLast?.getD 0
def acW (e : EnvV) (f : FrV) : Lf := if f.l.length = 1 then fin 0 0 e { f with line := 1,l := f.l.dropLast } else go e { f with line := 1,l := f.l.dropLast }
def agk (e : EnvV) (f : FrV) (t : Int) : Lf :=
 if f.line = 17 then go (e.sm (aaK e.c t 0) 4) { f with line := 18 }
 else if f.line = 18 then
  if e.hit 3 (aaK e.c t 2) 0 4294967296 = true then acW ((e.ac 3 (aaK e.c t 2) 0 4294967296).em 10 f.a t 0 0) f
  else go ((e.ac 3 (aaK e.c t 2) 0 4294967296).em 10 f.a t 0 0) { f with line := 19 }
 else if abP e (wi (wu (e.ld (aaK e.c t 2) - 1))) then go (e.lm (aaK e.c t 2)) { f with line := 20,n := wi (wu (e.ld (aaK e.c t 2) - 1)) }
 else acW (e.lm (aaK e.c t 2)) { f with n := wi (wu (e.ld (aaK e.c t 2) - 1)) }
def awW (r : RecV) (i : Ins) : RecV := 
 if wi ((if r.left = 0 then i.a else r.left) - 1) = 0 then { r with pc := wi (r.pc + 1),left := wi ((if r.left = 0 then i.a else r.left) - 1) } else { r with left := wi ((if r.left = 0 then i.a else r.left) - 1) }
def avP (e : EnvV) (f : FrV) : Lf :=
 if f.line = 23 then fin 4 0 e f
 else if f.line = 2 then go ((e.sm (aaK e.c (aaQ f.l) 3) 0).put (aaQ f.l) { e.rc (aaQ f.l) with waiting := -1 }) { f with line := 1 }
 else if f.line = 3 then go (e.put (aaQ f.l) (awW (e.rc (aaQ f.l)) (e.ins (aaQ f.l)))) { f with line := 1 }
 else if f.line = 4 then go (e.put (aaQ f.l) { e.rc (aaQ f.l) with pc := wi ((e.rc (aaQ f.l)).pc + 1) }) { f with line := 1 }
 else if f.line = 10 then go ((e.sm (aaK e.c (aaQ f.l) 3) (wu (wi (f.j + 1)))).put (aaQ f.l) { e.rc (aaQ f.l) with pc := wi ((e.rc (aaQ f.l)).pc + 1),waiting := f.j }) { f with line := 11 }
 else if f.line = 11 then go (e.sm (aaK e.c (aaQ f.l) 0) 3) { f with line := 12 }
 else if f.line = 12 then
  if e.hit 3 (aaK e.c f.j 2) 0 (wu (wi (aaQ f.l + 1))) = true then go ((e.ac 3 (aaK e.c f.j 2) 0 (wu (wi (aaQ f.l + 1)))).em 6 f.a (aaQ f.l) f.j 0) { f with line := 13 }
  else go (e.ac 3 (aaK e.c f.j 2) 0 (wu (wi (aaQ f.l + 1)))) { f with line := 15 }
 else if f.line = 13 then go (e.lm (aaK e.c (aaQ f.l) 1)) { f with line := 14,t := wi (e.ld (aaK e.c (aaQ f.l) 1)) }
 else if f.line = 15 then go (e.sm (aaK e.c (aaQ f.l) 0) 2) { f with line := 16 }
 else if f.line = 16 then go (((e.sm (aaK e.c (aaQ f.l) 3) 0).put (aaQ f.l) { e.rc (aaQ f.l) with waiting := -1 }).em 8 f.a (aaQ f.l) f.j 0) { f with line := 1 }
 else agk e f (aaQ f.l)
def EnvV.sub (e : EnvV) (i : Int) : Sub := ac1 e.c.subs i
def ahD (e : EnvV) (f : FrV) : Lf :=
 if (e.c.subs.length : Int) ≤ f.i then fin 0 0 e f
 else if f.line = 2 then
  if e.c.heap ≤ wi (e.ld 2) then go ((e.lm 2).em 2 e.c.workers 0 f.i 1) { f with line := 8,b := 0 } else go (e.lm 2) { f with line := 3,b := 0 }
 else if f.line = 4 then go (e.sm (aaK e.c f.n 1) (wu (e.sub f.i).level)) { f with line := 5 }
 else if f.line = 5 then go (e.sm (aaK e.c f.n 4) (wu e.now)) { f with line := 6 }
 else go (e.sm (aaK e.c f.n 0) 1) { f with line := wi (f.line + 1) }
end
end Go.Proofs.YtkmkhldmflebkaaGreat
