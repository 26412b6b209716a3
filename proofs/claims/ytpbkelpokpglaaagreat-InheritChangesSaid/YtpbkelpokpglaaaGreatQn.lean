/- The reference: machines. -/
import Derived.Test.YtpbkelpokpglaaaGreatQm
set_option linter.all false
namespace Go.Proofs.YtpbkelpokpglaaaGreat
open Go Go.RowKit
set_option maxRecDepth 100000
noncomputable def r2draw (a : Int) (b : Int) : Option ((Int × Unit) × (Unit)) :=
 if b < 1 then
  some ((0, ()), (()))
 else
 if b ≠ 0 then
  if (Int.tmod a b) < 0 then
   if b ≠ 0 then
    some ((wi ((Int.tmod a b) + b), ()), (()))
   else none
  else
  if b ≠ 0 then
   some (((Int.tmod a b), ()), (()))
  else none
 else none
noncomputable abbrev r2draw_k : Con SR1 := ⟨37, [.sh sI_, .sh sI_], [.sh sI_], fun x => r2draw x.1 x.2.1⟩
theorem r2draw_ok : CO Tryz.prog r2draw_k := co_fn mixed Tryz.func37 [] trivial [] trivial (fun _ => []) [] fun x => by kernel_rfl
noncomputable def r2new (a : Int) : Option ((MemV × Unit) × (Unit)) :=
 if (if 0 < (if 131072 < a then 131072 else a) then (if 131072 < a then 131072 else a) else 0) = (if 0 < (if 131072 < a then 131072 else a) then (if 131072 < a then 131072 else a) else 0) then
  if 0 ≤ (if 0 < (if 131072 < a then 131072 else a) then (if 131072 < a then 131072 else a) else 0) ∧ (if 0 < (if 131072 < a then 131072 else a) then (if 131072 < a then 131072 else a) else 0) ≤ 1099511627776 then
   some (((⟨List.replicate ((if 0 < (if 131072 < a then 131072 else a) then (if 131072 < a then 131072 else a) else 0) : Int).toNat (0 : Int), ⟨0, 0, 0, 0⟩, 0⟩ : MemV), ()), (()))
  else none
 else none
noncomputable abbrev r2new_k : Con SR1 := ⟨55, [.sh sI_], [.val 9], fun x => r2new x.1⟩
theorem r2new_ok : CO Tryz.prog r2new_k := co_fn mixed Tryz.func55 [] trivial [] trivial (fun _ => []) [] fun x => by kernel_rfl
noncomputable def r8fresh (a : Int) (b : Int) : Option ((RecV × Unit) × (Unit)) :=
 some (((⟨a, b, 0, 0, (-1), [], false⟩ : RecV), ()), (()))
noncomputable abbrev r8fresh_k : Con SR1 := ⟨57, [.sh sI_, .sh sI_], [.val 7], fun x => r8fresh x.1 x.2.1⟩
theorem r8fresh_ok : CO Tryz.prog r8fresh_k := co_fn mixed Tryz.func57 [] trivial [] trivial (fun _ => []) [] fun x => by kernel_rfl
noncomputable def r8new (cf : Cfg) : Option ((EnvV × Unit) × (Unit)) :=
 (r6cells cf).bind fun r1 =>
 if cf.workers = cf.workers then
  if cf.levels = cf.levels then
   if cf.classes = cf.classes then
    if cf.tasks = cf.tasks then
     if cf.deque = cf.deque then
      if cf.heap = cf.heap then
       if cf.batch = cf.batch then
        if cf.age = cf.age then
         if cf.patience = cf.patience then
          (r2new r1.1.1).bind fun r2 =>
          if cf.workers = cf.workers then
           if cf.levels = cf.levels then
            if cf.classes = cf.classes then
             if cf.tasks = cf.tasks then
              if cf.deque = cf.deque then
               if cf.heap = cf.heap then
                if cf.batch = cf.batch then
                 if cf.age = cf.age then
                  if cf.patience = cf.patience then
                   (lpF (σ := Int × EnvV × Unit) (β := Int × EnvV × Unit) (fun self5 x3 =>
                    if x3.1 < cf.tasks then
                     (r8fresh 0 (-1)).bind fun r6 =>
                     if (((x3.2.1.recs.length + ([r6.1.1] : List RecV).length : Nat)) : Int) < 100000000000 then
                      self5 (wi (x3.1 + 1), ({ x3.2.1 with recs := x3.2.1.recs ++ ([r6.1.1]) } : EnvV), ())
                     else none
                    else
                    some (x3.1, x3.2.1, ())
                   ) 18446744073709551616 (0, (⟨cf, r2.1.1, 0, 0, [], []⟩ : EnvV), ())).bind fun z4 =>
                   some ((z4.2.1, ()), (()))
                  else none
                 else none
                else none
               else none
              else none
             else none
            else none
           else none
          else none
         else none
        else none
       else none
      else none
     else none
    else none
   else none
  else none
 else none
noncomputable abbrev r8new_k : Con SR1 := ⟨25, [.val 13], [.sh (.own 12)], fun x => r8new x.1⟩
theorem r8new_ok : CO Tryz.prog r8new_k := co_fn mixed Tryz.func25 [r6cells_k, r2new_k, r8fresh_k] ⟨r6cells_ok, r2new_ok, r8fresh_ok, trivial⟩ [] trivial (fun _ => []) [(3, .loop [.rg 4 sI_, .rg 3 (.own 12)] 18446744073709551616 0)] fun x => by kernel_rfl
noncomputable def r8make (f : FrV) : Option ((MaV × Unit) × (Unit)) :=
 if f.kind = 22 then
  some (((⟨[({ f with line := 1, d := (-1) } : FrV)], false, 0, 0⟩ : MaV), ()), (()))
 else
 some (((⟨[({ f with line := 1 } : FrV)], false, 0, 0⟩ : MaV), ()), (()))
noncomputable abbrev r8make_k : Con SR1 := ⟨26, [.val 8], [.sh (.own 11)], fun x => r8make x.1⟩
theorem r8make_ok : CO Tryz.prog r8make_k := co_fn mixed Tryz.func26 [] trivial [] trivial (fun _ => []) [] fun x => by kernel_rfl
noncomputable def r8enterdrain (f : FrV) : Option ((FrV × Bool × Unit) × (FrV × Unit)) :=
 if f.line = 2 then
  some (((⟨8, 0, ⟨0, 0, 0, 0⟩, f.a, 0, 0, 0, 0, 0, 0, 0, 0, 0, 0, []⟩ : FrV), true, ()), (f, ()))
 else
 if f.line = 3 then
  some (((⟨11, 0, ⟨0, 0, 0, 0⟩, f.a, 0, 0, 0, 0, 0, 0, 0, 0, 0, 0, []⟩ : FrV), true, ()), (f, ()))
 else
 if f.line = 5 then
  some (((⟨5, 0, ⟨0, 0, 0, 0⟩, f.a, f.t, f.n, 0, 0, 0, 0, 0, 0, 0, 0, []⟩ : FrV), true, ()), (f, ()))
 else
 if f.line = 6 then
  some (((⟨9, 0, ⟨0, 0, 0, 0⟩, 0, 0, 0, 0, 0, 0, 0, 0, 0, 0, 0, []⟩ : FrV), true, ()), (f, ()))
 else
 if f.line = 7 then
  some (((⟨20, 0, ⟨0, 0, 0, 0⟩, f.a, f.j, 0, 0, 0, 0, 0, 0, 0, 0, 0, []⟩ : FrV), true, ()), (f, ()))
 else
 some (((⟨0, 0, ⟨0, 0, 0, 0⟩, 0, 0, 0, 0, 0, 0, 0, 0, 0, 0, 0, []⟩ : FrV), false, ()), (f, ()))
noncomputable abbrev r8enterdrain_k : Con SR1 := ⟨114, [.ref 8], [.val 8, .sh .b], fun x => r8enterdrain x.1⟩
theorem r8enterdrain_ok : CO Tryz.prog r8enterdrain_k := co_fn mixed Tryz.func114 [] trivial [] trivial (fun _ => []) [] fun x => by kernel_rfl
noncomputable def r8choose (e : EnvV) (f : FrV) : Option ((Unit) × (EnvV × FrV × Unit)) :=
 if f.line ≠ 1 then
  some ((()), (e, f, ()))
 else
 if 0 ≤ wi (((f.l.length : Nat) : Int) - 1) ∧ wi (((f.l.length : Nat) : Int) - 1) < ((f.l.length : Nat) : Int) then
  if 0 ≤ (atK1 f.l (wi (((f.l.length : Nat) : Int) - 1))) then
   if (atK1 f.l (wi (((f.l.length : Nat) : Int) - 1))) < e.c.tasks then
    if ¬ ((atK1 f.l (wi (((f.l.length : Nat) : Int) - 1))) < ((e.recs.length : Nat) : Int)) then
     some ((()), (e, ({ f with line := 23 } : FrV), ()))
    else
    if 0 ≤ atK1 f.l (wi (((f.l.length : Nat) : Int) - 1)) ∧ atK1 f.l (wi (((f.l.length : Nat) : Int) - 1)) < ((e.recs.length : Nat) : Int) then
     if 0 ≤ atK1 f.l (wi (((f.l.length : Nat) : Int) - 1)) ∧ atK1 f.l (wi (((f.l.length : Nat) : Int) - 1)) < ((e.recs.length : Nat) : Int) then
      if ((atK7 e.recs (atK1 f.l (wi (((f.l.length : Nat) : Int) - 1)))).prog) < 0 then
       if ((atK7 e.recs (atK1 f.l (wi (((f.l.length : Nat) : Int) - 1)))).waiting) ≠ (-1) then
        some ((()), (e, ({ f with line := 2 } : FrV), ()))
       else
       if ((atK7 e.recs (atK1 f.l (wi (((f.l.length : Nat) : Int) - 1)))).pc) < 0 then
        some ((()), (e, ({ f with line := 17 } : FrV), ()))
       else
       if 0 ≤ ((atK7 e.recs (atK1 f.l (wi (((f.l.length : Nat) : Int) - 1)))).pc) then
        some ((()), (e, ({ f with line := 17 } : FrV), ()))
       else
       none
      else
      if ((e.c.progs.length : Nat) : Int) ≤ ((atK7 e.recs (atK1 f.l (wi (((f.l.length : Nat) : Int) - 1)))).prog) then
       if ((atK7 e.recs (atK1 f.l (wi (((f.l.length : Nat) : Int) - 1)))).waiting) ≠ (-1) then
        some ((()), (e, ({ f with line := 2 } : FrV), ()))
       else
       if ((atK7 e.recs (atK1 f.l (wi (((f.l.length : Nat) : Int) - 1)))).pc) < 0 then
        some ((()), (e, ({ f with line := 17 } : FrV), ()))
       else
       if 0 ≤ ((atK7 e.recs (atK1 f.l (wi (((f.l.length : Nat) : Int) - 1)))).pc) then
        some ((()), (e, ({ f with line := 17 } : FrV), ()))
       else
       none
      else
      if 0 ≤ (atK7 e.recs (atK1 f.l (wi (((f.l.length : Nat) : Int) - 1)))).prog ∧ (atK7 e.recs (atK1 f.l (wi (((f.l.length : Nat) : Int) - 1)))).prog < ((e.c.progs.length : Nat) : Int) then
       if ((atK7 e.recs (atK1 f.l (wi (((f.l.length : Nat) : Int) - 1)))).waiting) ≠ (-1) then
        some ((()), (e, ({ f with line := 2 } : FrV), ()))
       else
       if ((atK7 e.recs (atK1 f.l (wi (((f.l.length : Nat) : Int) - 1)))).pc) < 0 then
        some ((()), (e, ({ f with line := 17 } : FrV), ()))
       else
       if (((atL [] e.c.progs ((atK7 e.recs (atK1 f.l (wi (((f.l.length : Nat) : Int) - 1)))).prog)).length : Nat) : Int) ≤ ((atK7 e.recs (atK1 f.l (wi (((f.l.length : Nat) : Int) - 1)))).pc) then
        some ((()), (e, ({ f with line := 17 } : FrV), ()))
       else
       if 0 ≤ (atK7 e.recs (atK1 f.l (wi (((f.l.length : Nat) : Int) - 1)))).pc ∧ (atK7 e.recs (atK1 f.l (wi (((f.l.length : Nat) : Int) - 1)))).pc < (((atL [] e.c.progs ((atK7 e.recs (atK1 f.l (wi (((f.l.length : Nat) : Int) - 1)))).prog)).length : Nat) : Int) then
        if ((atK3 (atL [] e.c.progs ((atK7 e.recs (atK1 f.l (wi (((f.l.length : Nat) : Int) - 1)))).prog)) ((atK7 e.recs (atK1 f.l (wi (((f.l.length : Nat) : Int) - 1)))).pc)).op) = 0 then
         some ((()), (e, ({ f with line := 3 } : FrV), ()))
        else
        if 0 ≤ (atK7 e.recs (atK1 f.l (wi (((f.l.length : Nat) : Int) - 1)))).pc ∧ (atK7 e.recs (atK1 f.l (wi (((f.l.length : Nat) : Int) - 1)))).pc < (((atL [] e.c.progs ((atK7 e.recs (atK1 f.l (wi (((f.l.length : Nat) : Int) - 1)))).prog)).length : Nat) : Int) then
         if ((atK3 (atL [] e.c.progs ((atK7 e.recs (atK1 f.l (wi (((f.l.length : Nat) : Int) - 1)))).prog)) ((atK7 e.recs (atK1 f.l (wi (((f.l.length : Nat) : Int) - 1)))).pc)).op) = 1 then
          some ((()), (e, ({ f with line := 5 } : FrV), ()))
         else
         if 0 ≤ (atK7 e.recs (atK1 f.l (wi (((f.l.length : Nat) : Int) - 1)))).pc ∧ (atK7 e.recs (atK1 f.l (wi (((f.l.length : Nat) : Int) - 1)))).pc < (((atL [] e.c.progs ((atK7 e.recs (atK1 f.l (wi (((f.l.length : Nat) : Int) - 1)))).prog)).length : Nat) : Int) then
          if ((atK3 (atL [] e.c.progs ((atK7 e.recs (atK1 f.l (wi (((f.l.length : Nat) : Int) - 1)))).prog)) ((atK7 e.recs (atK1 f.l (wi (((f.l.length : Nat) : Int) - 1)))).pc)).a) < ((((atK7 e.recs (atK1 f.l (wi (((f.l.length : Nat) : Int) - 1)))).kids).length : Nat) : Int) then
           if 0 ≤ (atK7 e.recs (atK1 f.l (wi (((f.l.length : Nat) : Int) - 1)))).pc ∧ (atK7 e.recs (atK1 f.l (wi (((f.l.length : Nat) : Int) - 1)))).pc < (((atL [] e.c.progs ((atK7 e.recs (atK1 f.l (wi (((f.l.length : Nat) : Int) - 1)))).prog)).length : Nat) : Int) then
            if 0 ≤ (atK3 (atL [] e.c.progs ((atK7 e.recs (atK1 f.l (wi (((f.l.length : Nat) : Int) - 1)))).prog)) ((atK7 e.recs (atK1 f.l (wi (((f.l.length : Nat) : Int) - 1)))).pc)).a ∧ (atK3 (atL [] e.c.progs ((atK7 e.recs (atK1 f.l (wi (((f.l.length : Nat) : Int) - 1)))).prog)) ((atK7 e.recs (atK1 f.l (wi (((f.l.length : Nat) : Int) - 1)))).pc)).a < ((((atK7 e.recs (atK1 f.l (wi (((f.l.length : Nat) : Int) - 1)))).kids).length : Nat) : Int) then
             if (atK1 ((atK7 e.recs (atK1 f.l (wi (((f.l.length : Nat) : Int) - 1)))).kids) ((atK3 (atL [] e.c.progs ((atK7 e.recs (atK1 f.l (wi (((f.l.length : Nat) : Int) - 1)))).prog)) ((atK7 e.recs (atK1 f.l (wi (((f.l.length : Nat) : Int) - 1)))).pc)).a)) ≠ (-1) then
              if 0 ≤ (atK7 e.recs (atK1 f.l (wi (((f.l.length : Nat) : Int) - 1)))).pc ∧ (atK7 e.recs (atK1 f.l (wi (((f.l.length : Nat) : Int) - 1)))).pc < (((atL [] e.c.progs ((atK7 e.recs (atK1 f.l (wi (((f.l.length : Nat) : Int) - 1)))).prog)).length : Nat) : Int) then
               if 0 ≤ (atK3 (atL [] e.c.progs ((atK7 e.recs (atK1 f.l (wi (((f.l.length : Nat) : Int) - 1)))).prog)) ((atK7 e.recs (atK1 f.l (wi (((f.l.length : Nat) : Int) - 1)))).pc)).a ∧ (atK3 (atL [] e.c.progs ((atK7 e.recs (atK1 f.l (wi (((f.l.length : Nat) : Int) - 1)))).prog)) ((atK7 e.recs (atK1 f.l (wi (((f.l.length : Nat) : Int) - 1)))).pc)).a < ((((atK7 e.recs (atK1 f.l (wi (((f.l.length : Nat) : Int) - 1)))).kids).length : Nat) : Int) then
                some ((()), (e, ({ f with line := 10, j := atK1 ((atK7 e.recs (atK1 f.l (wi (((f.l.length : Nat) : Int) - 1)))).kids) ((atK3 (atL [] e.c.progs ((atK7 e.recs (atK1 f.l (wi (((f.l.length : Nat) : Int) - 1)))).prog)) ((atK7 e.recs (atK1 f.l (wi (((f.l.length : Nat) : Int) - 1)))).pc)).a) } : FrV), ()))
               else none
              else none
             else
             some ((()), (e, ({ f with line := 4 } : FrV), ()))
            else none
           else none
          else
          some ((()), (e, ({ f with line := 4 } : FrV), ()))
         else none
        else none
       else none
      else none
     else none
    else none
   else
   some ((()), (e, ({ f with line := 23 } : FrV), ()))
  else
  some ((()), (e, ({ f with line := 23 } : FrV), ()))
 else none
noncomputable abbrev r8choose_k : Con SR1 := ⟨159, [.ref 12, .ref 8], [], fun x => r8choose x.1 x.2.1⟩
noncomputable def r8choose_tb : List (Nat × Func) := [(176, Tryz.f176), (113, Tryz.f113), (177, Tryz.f177)]
theorem r8choose_ok : CO Tryz.prog r8choose_k := co_fn mixed Tryz.func159 [] trivial r8choose_tb ⟨Tryz.func176, Tryz.func113, Tryz.func177, trivial⟩ (fun _ => []) [] fun x => by kernel_rfl
noncomputable def r8enterrun (e : EnvV) (f : FrV) : Option ((FrV × Bool × Unit) × (EnvV × FrV × Unit)) :=
 (r8choose e f).bind fun r1 =>
 if r1.2.2.1.line = 5 then
  some (((⟨12, 0, ⟨0, 0, 0, 0⟩, 0, 0, 0, 0, 0, 0, 0, 0, 0, 0, 0, []⟩ : FrV), true, ()), (r1.2.1, r1.2.2.1, ()))
 else
 if r1.2.2.1.line = 6 then
  some (((⟨13, 0, ⟨0, 0, 0, 0⟩, r1.2.2.1.n, r1.2.2.1.d, 0, 0, 0, 0, 0, 0, 0, 0, 0, []⟩ : FrV), true, ()), (r1.2.1, r1.2.2.1, ()))
 else
 if r1.2.2.1.line = 7 then
  some (((⟨5, 0, ⟨0, 0, 0, 0⟩, r1.2.2.1.a, r1.2.2.1.d, r1.2.2.1.n, 0, 0, 0, 0, 0, 0, 0, 0, []⟩ : FrV), true, ()), (r1.2.1, r1.2.2.1, ()))
 else
 if r1.2.2.1.line = 8 then
  some (((⟨20, 0, ⟨0, 0, 0, 0⟩, r1.2.2.1.a, r1.2.2.1.d, 0, 0, 0, 0, 0, 0, 0, 0, 0, []⟩ : FrV), true, ()), (r1.2.1, r1.2.2.1, ()))
 else
 if r1.2.2.1.line = 9 then
  if r1.2.2.1.line = 9 then
   some (((⟨14, 0, ⟨0, 0, 0, 0⟩, r1.2.2.1.a, r1.2.2.1.n, 0, 0, 0, 0, 0, 0, 0, 0, 0, []⟩ : FrV), true, ()), (r1.2.1, r1.2.2.1, ()))
  else
  if r1.2.2.1.line = 14 then
   some (((⟨17, 0, ⟨0, 0, 0, 0⟩, r1.2.2.1.a, r1.2.2.1.j, r1.2.2.1.t, 0, 0, 0, 0, 0, 0, 0, 0, []⟩ : FrV), true, ()), (r1.2.1, r1.2.2.1, ()))
  else
  if r1.2.2.1.line = 20 then
   some (((⟨15, 0, ⟨0, 0, 0, 0⟩, r1.2.2.1.a, r1.2.2.1.n, 0, 0, 0, 0, 0, 0, 0, 0, 0, []⟩ : FrV), true, ()), (r1.2.1, r1.2.2.1, ()))
  else
  if r1.2.2.1.line = 21 then
   some (((⟨20, 0, ⟨0, 0, 0, 0⟩, r1.2.2.1.a, r1.2.2.1.t, 0, 0, 0, 0, 0, 0, 0, 0, 0, []⟩ : FrV), true, ()), (r1.2.1, r1.2.2.1, ()))
  else
  some (((⟨0, 0, ⟨0, 0, 0, 0⟩, 0, 0, 0, 0, 0, 0, 0, 0, 0, 0, 0, []⟩ : FrV), false, ()), (r1.2.1, r1.2.2.1, ()))
 else
 if r1.2.2.1.line = 22 then
  some (((⟨14, 0, ⟨0, 0, 0, 0⟩, r1.2.2.1.a, r1.2.2.1.n, 0, 0, 0, 0, 0, 0, 0, 0, 0, []⟩ : FrV), true, ()), (r1.2.1, r1.2.2.1, ()))
 else
 if r1.2.2.1.line = 14 then
  some (((⟨17, 0, ⟨0, 0, 0, 0⟩, r1.2.2.1.a, r1.2.2.1.j, r1.2.2.1.t, 0, 0, 0, 0, 0, 0, 0, 0, []⟩ : FrV), true, ()), (r1.2.1, r1.2.2.1, ()))
 else
 if r1.2.2.1.line = 20 then
  some (((⟨15, 0, ⟨0, 0, 0, 0⟩, r1.2.2.1.a, r1.2.2.1.n, 0, 0, 0, 0, 0, 0, 0, 0, 0, []⟩ : FrV), true, ()), (r1.2.1, r1.2.2.1, ()))
 else
 if r1.2.2.1.line = 21 then
  some (((⟨20, 0, ⟨0, 0, 0, 0⟩, r1.2.2.1.a, r1.2.2.1.t, 0, 0, 0, 0, 0, 0, 0, 0, 0, []⟩ : FrV), true, ()), (r1.2.1, r1.2.2.1, ()))
 else
 some (((⟨0, 0, ⟨0, 0, 0, 0⟩, 0, 0, 0, 0, 0, 0, 0, 0, 0, 0, 0, []⟩ : FrV), false, ()), (r1.2.1, r1.2.2.1, ()))
noncomputable abbrev r8enterrun_k : Con SR1 := ⟨115, [.ref 12, .ref 8], [.val 8, .sh .b], fun x => r8enterrun x.1 x.2.1⟩
theorem r8enterrun_ok : CO Tryz.prog r8enterrun_k := co_fn mixed Tryz.func115 [r8choose_k] ⟨r8choose_ok, trivial⟩ [] trivial (fun _ => []) [] fun x => by kernel_rfl
noncomputable def r8runframe (a : Int) (b : Int) : Option ((FrV × Unit) × (Unit)) :=
 some (((⟨24, 0, ⟨0, 0, 0, 0⟩, a, b, 0, 0, 0, 0, 0, 0, 0, 0, 0, [b]⟩ : FrV), ()), (()))
noncomputable abbrev r8runframe_k : Con SR1 := ⟨160, [.sh sI_, .sh sI_], [.val 8], fun x => r8runframe x.1 x.2.1⟩
theorem r8runframe_ok : CO Tryz.prog r8runframe_k := co_fn mixed Tryz.func160 [] trivial [] trivial (fun _ => []) [] fun x => by kernel_rfl
noncomputable def r8enterworker (e : EnvV) (f : FrV) : Option ((FrV × Bool × Unit) × (EnvV × FrV × Unit)) :=
 if f.line = 1 then
  if e.c.age = 0 then
   some (((⟨23, 0, ⟨0, 0, 0, 0⟩, f.a, 0, 0, 0, 0, 0, 0, 0, 0, 0, 0, []⟩ : FrV), true, ()), (e, ({ f with line := 2 } : FrV), ()))
  else
  if f.line = 1 then
   some (((⟨18, 0, ⟨0, 0, 0, 0⟩, f.a, f.j, 0, 0, 0, 0, 0, 0, 0, 0, 0, []⟩ : FrV), true, ()), (e, f, ()))
  else
  if f.line = 2 then
   some (((⟨23, 0, ⟨0, 0, 0, 0⟩, f.a, 0, 0, 0, 0, 0, 0, 0, 0, 0, 0, []⟩ : FrV), true, ()), (e, f, ()))
  else
  if f.line = 3 then
   some (((⟨22, 0, ⟨0, 0, 0, 0⟩, f.a, 0, (-1), 0, 0, 0, 0, 0, 0, 0, 0, []⟩ : FrV), true, ()), (e, f, ()))
  else
  if f.line = 4 then
   some (((⟨21, 0, ⟨0, 0, 0, 0⟩, f.a, 0, 0, 0, 0, 0, 0, 0, 0, 0, 0, []⟩ : FrV), true, ()), (e, f, ()))
  else
  if f.line = 5 then
   (r6queue e.c f.i f.d).bind fun r1 =>
   some (((⟨2, 0, r1.1.1, 0, 0, 0, 0, 0, 0, 0, 0, 0, 0, 0, []⟩ : FrV), true, ()), (e, f, ()))
  else
  if f.line = 6 then
   some (((⟨14, 0, ⟨0, 0, 0, 0⟩, f.a, f.n, 0, 0, 0, 0, 0, 0, 0, 0, 0, []⟩ : FrV), true, ()), (e, f, ()))
  else
  if f.line = 7 then
   (r8runframe f.a f.n).bind fun r2 =>
   some ((r2.1.1, true, ()), (e, f, ()))
  else
  if f.line = 8 then
   some (((⟨19, 0, ⟨0, 0, 0, 0⟩, f.a, 0, 0, 0, 0, 0, 0, 0, 0, 0, 0, []⟩ : FrV), true, ()), (e, f, ()))
  else
  (r6bitmap e.c f.i).bind fun r3 =>
  if f.d = f.d then
   if f.i = f.i then
    if e.c.workers = e.c.workers then
     if e.c.levels = e.c.levels then
      if e.c.classes = e.c.classes then
       if e.c.tasks = e.c.tasks then
        if e.c.deque = e.c.deque then
         if e.c.heap = e.c.heap then
          if e.c.batch = e.c.batch then
           if e.c.age = e.c.age then
            if e.c.patience = e.c.patience then
             if f.d = f.d then
              (r6queue e.c f.i f.d).bind fun r4 =>
              if f.d = f.d then
               some (((⟨4, 0, r4.1.1, r3.1.1, f.d, 0, 0, 0, 0, 0, 0, 0, 0, 0, []⟩ : FrV), true, ()), (e, f, ()))
              else none
             else none
            else none
           else none
          else none
         else none
        else none
       else none
      else none
     else none
    else none
   else none
  else none
 else
 if f.line = 1 then
  some (((⟨18, 0, ⟨0, 0, 0, 0⟩, f.a, f.j, 0, 0, 0, 0, 0, 0, 0, 0, 0, []⟩ : FrV), true, ()), (e, f, ()))
 else
 if f.line = 2 then
  some (((⟨23, 0, ⟨0, 0, 0, 0⟩, f.a, 0, 0, 0, 0, 0, 0, 0, 0, 0, 0, []⟩ : FrV), true, ()), (e, f, ()))
 else
 if f.line = 3 then
  some (((⟨22, 0, ⟨0, 0, 0, 0⟩, f.a, 0, (-1), 0, 0, 0, 0, 0, 0, 0, 0, []⟩ : FrV), true, ()), (e, f, ()))
 else
 if f.line = 4 then
  some (((⟨21, 0, ⟨0, 0, 0, 0⟩, f.a, 0, 0, 0, 0, 0, 0, 0, 0, 0, 0, []⟩ : FrV), true, ()), (e, f, ()))
 else
 if f.line = 5 then
  (r6queue e.c f.i f.d).bind fun r5 =>
  some (((⟨2, 0, r5.1.1, 0, 0, 0, 0, 0, 0, 0, 0, 0, 0, 0, []⟩ : FrV), true, ()), (e, f, ()))
 else
 if f.line = 6 then
  some (((⟨14, 0, ⟨0, 0, 0, 0⟩, f.a, f.n, 0, 0, 0, 0, 0, 0, 0, 0, 0, []⟩ : FrV), true, ()), (e, f, ()))
 else
 if f.line = 7 then
  (r8runframe f.a f.n).bind fun r6 =>
  some ((r6.1.1, true, ()), (e, f, ()))
 else
 if f.line = 8 then
  some (((⟨19, 0, ⟨0, 0, 0, 0⟩, f.a, 0, 0, 0, 0, 0, 0, 0, 0, 0, 0, []⟩ : FrV), true, ()), (e, f, ()))
 else
 (r6bitmap e.c f.i).bind fun r7 =>
 if f.d = f.d then
  if f.i = f.i then
   if e.c.workers = e.c.workers then
    if e.c.levels = e.c.levels then
     if e.c.classes = e.c.classes then
      if e.c.tasks = e.c.tasks then
       if e.c.deque = e.c.deque then
        if e.c.heap = e.c.heap then
         if e.c.batch = e.c.batch then
          if e.c.age = e.c.age then
           if e.c.patience = e.c.patience then
            if f.d = f.d then
             (r6queue e.c f.i f.d).bind fun r8 =>
             if f.d = f.d then
              some (((⟨4, 0, r8.1.1, r7.1.1, f.d, 0, 0, 0, 0, 0, 0, 0, 0, 0, []⟩ : FrV), true, ()), (e, f, ()))
             else none
            else none
           else none
          else none
         else none
        else none
       else none
      else none
     else none
    else none
   else none
  else none
 else none
noncomputable abbrev r8enterworker_k : Con SR1 := ⟨116, [.ref 12, .ref 8], [.val 8, .sh .b], fun x => r8enterworker x.1 x.2.1⟩
theorem r8enterworker_ok : CO Tryz.prog r8enterworker_k := co_fn mixed Tryz.func116 [r6queue_k, r8runframe_k, r6bitmap_k] ⟨r6queue_ok, r8runframe_ok, r6bitmap_ok, trivial⟩ [] trivial (fun _ => []) [] fun x => by kernel_rfl
noncomputable def r8enterclient (e : EnvV) (f : FrV) : Option ((FrV × Bool × Unit) × (EnvV × FrV × Unit)) :=
 if ((e.c.subs.length : Nat) : Int) ≤ f.i then
  some (((⟨0, 0, ⟨0, 0, 0, 0⟩, 0, 0, 0, 0, 0, 0, 0, 0, 0, 0, 0, []⟩ : FrV), false, ()), (e, f, ()))
 else
 if 0 ≤ f.i ∧ f.i < ((e.c.subs.length : Nat) : Int) then
  if ((atK4 e.c.subs f.i).prog) = ((atK4 e.c.subs f.i).prog) then
   if ((atK4 e.c.subs f.i).level) = ((atK4 e.c.subs f.i).level) then
    if ((atK4 e.c.subs f.i).deadline) = ((atK4 e.c.subs f.i).deadline) then
     if f.i = f.i then
      if f.line = 1 then
       some (((⟨7, 0, ⟨0, 0, 0, 0⟩, e.c.workers, 0, 0, 0, 0, 0, 0, 0, 0, 0, 0, []⟩ : FrV), true, ()), (e, f, ()))
      else
      if f.line = 3 then
       some (((⟨12, 0, ⟨0, 0, 0, 0⟩, 0, 0, 0, 0, 0, 0, 0, 0, 0, 0, 0, []⟩ : FrV), true, ()), (e, f, ()))
      else
      if f.line = 6 then
       some (((⟨10, 0, ⟨0, 0, 0, 0⟩, (atK4 e.c.subs f.i).deadline, f.n, 0, 0, 0, 0, 0, 0, 0, 0, 0, []⟩ : FrV), true, ()), (e, f, ()))
      else
      if f.line = 8 then
       some (((⟨9, 0, ⟨0, 0, 0, 0⟩, 0, 0, 0, 0, 0, 0, 0, 0, 0, 0, 0, []⟩ : FrV), true, ()), (e, f, ()))
      else
      if f.line = 9 then
       some (((⟨20, 0, ⟨0, 0, 0, 0⟩, e.c.workers, (atK4 e.c.subs f.i).level, 0, 0, 0, 0, 0, 0, 0, 0, 0, []⟩ : FrV), true, ()), (e, f, ()))
      else
      some (((⟨0, 0, ⟨0, 0, 0, 0⟩, 0, 0, 0, 0, 0, 0, 0, 0, 0, 0, 0, []⟩ : FrV), false, ()), (e, f, ()))
     else none
    else none
   else none
  else none
 else none
noncomputable abbrev r8enterclient_k : Con SR1 := ⟨117, [.ref 12, .ref 8], [.val 8, .sh .b], fun x => r8enterclient x.1 x.2.1⟩
theorem r8enterclient_ok : CO Tryz.prog r8enterclient_k := co_fn mixed Tryz.func117 [] trivial [] trivial (fun _ => []) [] fun x => by kernel_rfl
noncomputable def r8enter (e : EnvV) (f : FrV) : Option ((FrV × Bool × Unit) × (EnvV × FrV × Unit)) :=
 if f.kind = 5 then
  if f.line = 1 then
   (r6queue e.c f.a f.b).bind fun r1 =>
   if f.d = f.d then
    some (((⟨0, 0, r1.1.1, f.d, 0, 0, 0, 0, 0, 0, 0, 0, 0, 0, []⟩ : FrV), true, ()), (e, f, ()))
   else none
  else
  (r6bitmap e.c f.a).bind fun r2 =>
  if f.b = f.b then
   some (((⟨3, 0, ⟨0, 0, 0, 0⟩, r2.1.1, f.b, 0, 0, 0, 0, 0, 0, 0, 0, 0, []⟩ : FrV), true, ()), (e, f, ()))
  else none
 else
 if f.kind = 6 then
  if f.line = 2 then
   (r6queue e.c f.a f.i).bind fun r3 =>
   some (((⟨1, 0, r3.1.1, 0, 0, 0, 0, 0, 0, 0, 0, 0, 0, 0, []⟩ : FrV), true, ()), (e, f, ()))
  else
  if f.line = 3 then
   (r6bitmap e.c f.a).bind fun r4 =>
   if f.i = f.i then
    if f.a = f.a then
     if e.c.workers = e.c.workers then
      if e.c.levels = e.c.levels then
       if e.c.classes = e.c.classes then
        if e.c.tasks = e.c.tasks then
         if e.c.deque = e.c.deque then
          if e.c.heap = e.c.heap then
           if e.c.batch = e.c.batch then
            if e.c.age = e.c.age then
             if e.c.patience = e.c.patience then
              if f.i = f.i then
               (r6queue e.c f.a f.i).bind fun r5 =>
               if f.i = f.i then
                some (((⟨4, 0, r5.1.1, r4.1.1, f.i, 0, 0, 0, 0, 0, 0, 0, 0, 0, []⟩ : FrV), true, ()), (e, f, ()))
               else none
              else none
             else none
            else none
           else none
          else none
         else none
        else none
       else none
      else none
     else none
    else none
   else none
  else
  some (((⟨0, 0, ⟨0, 0, 0, 0⟩, 0, 0, 0, 0, 0, 0, 0, 0, 0, 0, 0, []⟩ : FrV), false, ()), (e, f, ()))
 else
 if f.kind = 15 then
  if f.line = 4 then
   some (((⟨5, 0, ⟨0, 0, 0, 0⟩, f.a, f.t, f.b, 0, 0, 0, 0, 0, 0, 0, 0, []⟩ : FrV), true, ()), (e, f, ()))
  else
  some (((⟨0, 0, ⟨0, 0, 0, 0⟩, 0, 0, 0, 0, 0, 0, 0, 0, 0, 0, 0, []⟩ : FrV), false, ()), (e, f, ()))
 else
 if f.kind = 17 then
  if f.line = 1 then
   if 0 ≤ f.b then
    if f.b < e.c.tasks then
     if f.b < ((e.recs.length : Nat) : Int) then
      if 0 ≤ f.d then
       if f.d < e.c.levels then
        some ((({ f with kind := 16, line := 0, q := ⟨0, 0, 0, 0⟩, i := 0, j := 0, n := 0, t := 0, u := 0, v := 0, w := 0, x := 0, l := [] } : FrV), true, ()), (e, f, ()))
       else
       if f.line = 3 then
        some (((⟨5, 0, ⟨0, 0, 0, 0⟩, f.a, f.d, f.b, 0, 0, 0, 0, 0, 0, 0, 0, []⟩ : FrV), true, ()), (e, f, ()))
       else
       some (((⟨0, 0, ⟨0, 0, 0, 0⟩, 0, 0, 0, 0, 0, 0, 0, 0, 0, 0, 0, []⟩ : FrV), false, ()), (e, f, ()))
      else
      if f.line = 3 then
       some (((⟨5, 0, ⟨0, 0, 0, 0⟩, f.a, f.d, f.b, 0, 0, 0, 0, 0, 0, 0, 0, []⟩ : FrV), true, ()), (e, f, ()))
      else
      some (((⟨0, 0, ⟨0, 0, 0, 0⟩, 0, 0, 0, 0, 0, 0, 0, 0, 0, 0, 0, []⟩ : FrV), false, ()), (e, f, ()))
     else
     if f.line = 3 then
      some (((⟨5, 0, ⟨0, 0, 0, 0⟩, f.a, f.d, f.b, 0, 0, 0, 0, 0, 0, 0, 0, []⟩ : FrV), true, ()), (e, f, ()))
     else
     some (((⟨0, 0, ⟨0, 0, 0, 0⟩, 0, 0, 0, 0, 0, 0, 0, 0, 0, 0, 0, []⟩ : FrV), false, ()), (e, f, ()))
    else
    if f.line = 3 then
     some (((⟨5, 0, ⟨0, 0, 0, 0⟩, f.a, f.d, f.b, 0, 0, 0, 0, 0, 0, 0, 0, []⟩ : FrV), true, ()), (e, f, ()))
    else
    some (((⟨0, 0, ⟨0, 0, 0, 0⟩, 0, 0, 0, 0, 0, 0, 0, 0, 0, 0, 0, []⟩ : FrV), false, ()), (e, f, ()))
   else
   if f.line = 3 then
    some (((⟨5, 0, ⟨0, 0, 0, 0⟩, f.a, f.d, f.b, 0, 0, 0, 0, 0, 0, 0, 0, []⟩ : FrV), true, ()), (e, f, ()))
   else
   some (((⟨0, 0, ⟨0, 0, 0, 0⟩, 0, 0, 0, 0, 0, 0, 0, 0, 0, 0, 0, []⟩ : FrV), false, ()), (e, f, ()))
  else
  if f.line = 3 then
   some (((⟨5, 0, ⟨0, 0, 0, 0⟩, f.a, f.d, f.b, 0, 0, 0, 0, 0, 0, 0, 0, []⟩ : FrV), true, ()), (e, f, ()))
  else
  some (((⟨0, 0, ⟨0, 0, 0, 0⟩, 0, 0, 0, 0, 0, 0, 0, 0, 0, 0, 0, []⟩ : FrV), false, ()), (e, f, ()))
 else
 if f.kind = 18 then
  if f.line = 6 then
   some (((⟨5, 0, ⟨0, 0, 0, 0⟩, f.a, f.t, f.b, 0, 0, 0, 0, 0, 0, 0, 0, []⟩ : FrV), true, ()), (e, f, ()))
  else
  some (((⟨0, 0, ⟨0, 0, 0, 0⟩, 0, 0, 0, 0, 0, 0, 0, 0, 0, 0, 0, []⟩ : FrV), false, ()), (e, f, ()))
 else
 if f.kind = 22 then
  (r8enterdrain f).bind fun r6 =>
  some ((r6.1.1, r6.1.2.1, ()), (e, r6.2.1, ()))
 else
 if f.kind = 23 then
  if f.line = 1 then
   some (((⟨6, 0, ⟨0, 0, 0, 0⟩, f.a, 0, 0, 0, 0, 0, 0, 0, 0, 0, 0, []⟩ : FrV), true, ()), (e, f, ()))
  else
  some (((⟨14, 0, ⟨0, 0, 0, 0⟩, f.a, f.n, 0, 0, 0, 0, 0, 0, 0, 0, 0, []⟩ : FrV), true, ()), (e, f, ()))
 else
 if f.kind = 24 then
  (r8enterrun e f).bind fun r7 =>
  some ((r7.1.1, r7.1.2.1, ()), (r7.2.1, r7.2.2.1, ()))
 else
 if f.kind = 25 then
  (r8enterworker e f).bind fun r8 =>
  some ((r8.1.1, r8.1.2.1, ()), (r8.2.1, r8.2.2.1, ()))
 else
 if f.kind = 26 then
  (r8enterclient e f).bind fun r9 =>
  some ((r9.1.1, r9.1.2.1, ()), (r9.2.1, r9.2.2.1, ()))
 else
 some (((⟨0, 0, ⟨0, 0, 0, 0⟩, 0, 0, 0, 0, 0, 0, 0, 0, 0, 0, 0, []⟩ : FrV), false, ()), (e, f, ()))
noncomputable abbrev r8enter_k : Con SR1 := ⟨86, [.ref 12, .ref 8], [.val 8, .sh .b], fun x => r8enter x.1 x.2.1⟩
noncomputable def r8enter_tb : List (Nat × Func) := [(113, Tryz.f113)]
theorem r8enter_ok : CO Tryz.prog r8enter_k := co_fn mixed Tryz.func86 [r6queue_k, r6bitmap_k, r8enterdrain_k, r8enterrun_k, r8enterworker_k, r8enterclient_k] ⟨r6queue_ok, r6bitmap_ok, r8enterdrain_ok, r8enterrun_ok, r8enterworker_ok, r8enterclient_ok, trivial⟩ r8enter_tb ⟨Tryz.func113, trivial⟩ (fun _ => []) [] fun x => by kernel_rfl
noncomputable def r8push (e : EnvV) (f : FrV) : Option ((ResV × Unit) × (EnvV × FrV × Unit)) :=
 if f.line = 1 then
  (r2acc e.m 1 f.q.bottom 0 0).bind fun r1 =>
  some (((⟨false, 0, 0⟩ : ResV), ()), (({ e with m := r1.2.1 } : EnvV), ({ f with line := wi (f.line + 1), u := r1.1.1 } : FrV), ()))
 else
 if f.line = 2 then
  (r2acc e.m 1 f.q.top 0 0).bind fun r2 =>
  if f.q.cap = f.q.cap then
   if f.q.cap ≤ (wi (wu (f.u - r2.1.1))) then
    some (((⟨true, 3, 0⟩ : ResV), ()), (({ e with m := r2.2.1 } : EnvV), ({ f with v := r2.1.1 } : FrV), ()))
   else
   some (((⟨false, 0, 0⟩ : ResV), ()), (({ e with m := r2.2.1 } : EnvV), ({ f with line := wi (f.line + 1), v := r2.1.1 } : FrV), ()))
  else none
 else
 if f.line = 3 then
  if f.q.cap < 1 then
   if f.a = f.a then
    (r2acc e.m 2 (-1) (wu (f.a)) 0).bind fun r3 =>
    some (((⟨false, 0, 0⟩ : ResV), ()), (({ e with m := r3.2.1 } : EnvV), ({ f with line := wi (f.line + 1) } : FrV), ()))
   else none
  else
  if (wu (f.q.cap)) ≠ 0 then
   if f.a = f.a then
    (r2acc e.m 2 (wi (f.q.ring + (wi ((Int.tmod f.u (wu (f.q.cap))))))) (wu (f.a)) 0).bind fun r4 =>
    some (((⟨false, 0, 0⟩ : ResV), ()), (({ e with m := r4.2.1 } : EnvV), ({ f with line := wi (f.line + 1) } : FrV), ()))
   else none
  else none
 else
 (r2acc e.m 2 f.q.bottom (wu (f.u + 1)) 0).bind fun r5 =>
 some (((⟨true, 0, 0⟩ : ResV), ()), (({ e with m := r5.2.1 } : EnvV), f, ()))
noncomputable abbrev r8push_k : Con SR1 := ⟨118, [.ref 12, .ref 8], [.val 10], fun x => r8push x.1 x.2.1⟩
noncomputable def r8push_tb : List (Nat × Func) := [(125, Tryz.f125), (74, Tryz.f74), (123, Tryz.f123), (75, Tryz.f75), (128, Tryz.f128)]
theorem r8push_ok : CO Tryz.prog r8push_k := co_fn mixed Tryz.func118 [r2acc_k] ⟨r2acc_ok, trivial⟩ r8push_tb ⟨Tryz.func125, Tryz.func74, Tryz.func123, Tryz.func75, Tryz.func128, trivial⟩ (fun _ => []) [] fun x => by kernel_rfl
noncomputable def r8pop (e : EnvV) (f : FrV) : Option ((ResV × Unit) × (EnvV × FrV × Unit)) :=
 if f.line = 1 then
  (r2acc e.m 1 f.q.bottom 0 0).bind fun r1 =>
  some (((⟨false, 0, 0⟩ : ResV), ()), (({ e with m := r1.2.1 } : EnvV), ({ f with line := wi (f.line + 1), u := r1.1.1 } : FrV), ()))
 else
 if f.line = 2 then
  (r2acc e.m 1 f.q.top 0 0).bind fun r2 =>
  if (wi (wu (f.u - r2.1.1))) ≤ 0 then
   some (((⟨true, 2, 0⟩ : ResV), ()), (({ e with m := r2.2.1 } : EnvV), ({ f with v := r2.1.1 } : FrV), ()))
  else
  some (((⟨false, 0, 0⟩ : ResV), ()), (({ e with m := r2.2.1 } : EnvV), ({ f with line := wi (f.line + 1), v := r2.1.1 } : FrV), ()))
 else
 if f.line = 3 then
  (r2acc e.m 2 f.q.bottom (wu (f.u - 1)) 0).bind fun r3 =>
  some (((⟨false, 0, 0⟩ : ResV), ()), (({ e with m := r3.2.1 } : EnvV), ({ f with line := wi (f.line + 1) } : FrV), ()))
 else
 if f.line = 4 then
  (r2acc e.m 1 f.q.top 0 0).bind fun r4 =>
  if (wi (wu ((wu (f.u - 1)) - r4.1.1))) = 0 then
   some (((⟨false, 0, 0⟩ : ResV), ()), (({ e with m := r4.2.1 } : EnvV), ({ f with line := 6, v := r4.1.1 } : FrV), ()))
  else
  if (wi (wu ((wu (f.u - 1)) - r4.1.1))) < 0 then
   some (((⟨false, 0, 0⟩ : ResV), ()), (({ e with m := r4.2.1 } : EnvV), ({ f with line := 9, v := r4.1.1 } : FrV), ()))
  else
  some (((⟨false, 0, 0⟩ : ResV), ()), (({ e with m := r4.2.1 } : EnvV), ({ f with line := wi (f.line + 1), v := r4.1.1 } : FrV), ()))
 else
 if f.line = 5 then
  if f.line = 5 then
   if f.q.cap < 1 then
    (r2acc e.m 1 (-1) 0 0).bind fun r5 =>
    some (((⟨true, 1, wi (r5.1.1)⟩ : ResV), ()), (({ e with m := r5.2.1 } : EnvV), f, ()))
   else
   if (wu (f.q.cap)) ≠ 0 then
    (r2acc e.m 1 (wi (f.q.ring + (wi ((Int.tmod (wu (f.u - 1)) (wu (f.q.cap))))))) 0 0).bind fun r6 =>
    some (((⟨true, 1, wi (r6.1.1)⟩ : ResV), ()), (({ e with m := r6.2.1 } : EnvV), f, ()))
   else none
  else
  if f.line = 6 then
   (r2acc e.m 3 f.q.top f.v (wu (f.v + 1))).bind fun r7 =>
   if (!r7.1.2.1) = true then
    some (((⟨false, 0, 0⟩ : ResV), ()), (({ e with m := r7.2.1 } : EnvV), ({ f with line := 9 } : FrV), ()))
   else
   some (((⟨false, 0, 0⟩ : ResV), ()), (({ e with m := r7.2.1 } : EnvV), ({ f with line := wi (f.line + 1) } : FrV), ()))
  else
  if f.line = 7 then
   (r2acc e.m 2 f.q.bottom f.u 0).bind fun r8 =>
   some (((⟨false, 0, 0⟩ : ResV), ()), (({ e with m := r8.2.1 } : EnvV), ({ f with line := wi (f.line + 1) } : FrV), ()))
  else
  (r2acc e.m 2 f.q.bottom f.u 0).bind fun r9 =>
  some (((⟨true, 2, 0⟩ : ResV), ()), (({ e with m := r9.2.1 } : EnvV), f, ()))
 else
 if f.line = 8 then
  if f.q.cap < 1 then
   (r2acc e.m 1 (-1) 0 0).bind fun r10 =>
   some (((⟨true, 1, wi (r10.1.1)⟩ : ResV), ()), (({ e with m := r10.2.1 } : EnvV), f, ()))
  else
  if (wu (f.q.cap)) ≠ 0 then
   (r2acc e.m 1 (wi (f.q.ring + (wi ((Int.tmod (wu (f.u - 1)) (wu (f.q.cap))))))) 0 0).bind fun r11 =>
   some (((⟨true, 1, wi (r11.1.1)⟩ : ResV), ()), (({ e with m := r11.2.1 } : EnvV), f, ()))
  else none
 else
 if f.line = 6 then
  (r2acc e.m 3 f.q.top f.v (wu (f.v + 1))).bind fun r12 =>
  if (!r12.1.2.1) = true then
   some (((⟨false, 0, 0⟩ : ResV), ()), (({ e with m := r12.2.1 } : EnvV), ({ f with line := 9 } : FrV), ()))
  else
  some (((⟨false, 0, 0⟩ : ResV), ()), (({ e with m := r12.2.1 } : EnvV), ({ f with line := wi (f.line + 1) } : FrV), ()))
 else
 if f.line = 7 then
  (r2acc e.m 2 f.q.bottom f.u 0).bind fun r13 =>
  some (((⟨false, 0, 0⟩ : ResV), ()), (({ e with m := r13.2.1 } : EnvV), ({ f with line := wi (f.line + 1) } : FrV), ()))
 else
 (r2acc e.m 2 f.q.bottom f.u 0).bind fun r14 =>
 some (((⟨true, 2, 0⟩ : ResV), ()), (({ e with m := r14.2.1 } : EnvV), f, ()))
noncomputable abbrev r8pop_k : Con SR1 := ⟨119, [.ref 12, .ref 8], [.val 10], fun x => r8pop x.1 x.2.1⟩
noncomputable def r8pop_tb : List (Nat × Func) := [(125, Tryz.f125), (74, Tryz.f74), (123, Tryz.f123), (128, Tryz.f128), (75, Tryz.f75), (127, Tryz.f127)]
theorem r8pop_ok : CO Tryz.prog r8pop_k := co_fn mixed Tryz.func119 [r2acc_k] ⟨r2acc_ok, trivial⟩ r8pop_tb ⟨Tryz.func125, Tryz.func74, Tryz.func123, Tryz.func128, Tryz.func75, Tryz.func127, trivial⟩ (fun _ => []) [] fun x => by kernel_rfl
noncomputable def r8steal (e : EnvV) (f : FrV) : Option ((ResV × Unit) × (EnvV × FrV × Unit)) :=
 if f.line = 1 then
  (r2acc e.m 1 f.q.top 0 0).bind fun r1 =>
  some (((⟨false, 0, 0⟩ : ResV), ()), (({ e with m := r1.2.1 } : EnvV), ({ f with line := wi (f.line + 1), v := r1.1.1 } : FrV), ()))
 else
 if f.line = 2 then
  (r2acc e.m 1 f.q.bottom 0 0).bind fun r2 =>
  if (wi (wu (r2.1.1 - f.v))) ≤ 0 then
   some (((⟨true, 2, 0⟩ : ResV), ()), (({ e with m := r2.2.1 } : EnvV), ({ f with u := r2.1.1 } : FrV), ()))
  else
  some (((⟨false, 0, 0⟩ : ResV), ()), (({ e with m := r2.2.1 } : EnvV), ({ f with line := wi (f.line + 1), u := r2.1.1 } : FrV), ()))
 else
 if f.line = 3 then
  if f.q.cap < 1 then
   (r2acc e.m 1 (-1) 0 0).bind fun r3 =>
   some (((⟨false, 0, 0⟩ : ResV), ()), (({ e with m := r3.2.1 } : EnvV), ({ f with line := wi (f.line + 1), w := r3.1.1 } : FrV), ()))
  else
  if (wu (f.q.cap)) ≠ 0 then
   (r2acc e.m 1 (wi (f.q.ring + (wi ((Int.tmod f.v (wu (f.q.cap))))))) 0 0).bind fun r4 =>
   some (((⟨false, 0, 0⟩ : ResV), ()), (({ e with m := r4.2.1 } : EnvV), ({ f with line := wi (f.line + 1), w := r4.1.1 } : FrV), ()))
  else none
 else
 (r2acc e.m 3 f.q.top f.v (wu (f.v + 1))).bind fun r5 =>
 if r5.1.2.1 = true then
  some (((⟨true, 1, wi (f.w)⟩ : ResV), ()), (({ e with m := r5.2.1 } : EnvV), f, ()))
 else
 some (((⟨true, 4, 0⟩ : ResV), ()), (({ e with m := r5.2.1 } : EnvV), f, ()))
noncomputable abbrev r8steal_k : Con SR1 := ⟨120, [.ref 12, .ref 8], [.val 10], fun x => r8steal x.1 x.2.1⟩
noncomputable def r8steal_tb : List (Nat × Func) := [(125, Tryz.f125), (74, Tryz.f74), (123, Tryz.f123), (75, Tryz.f75), (127, Tryz.f127)]
theorem r8steal_ok : CO Tryz.prog r8steal_k := co_fn mixed Tryz.func120 [r2acc_k] ⟨r2acc_ok, trivial⟩ r8steal_tb ⟨Tryz.func125, Tryz.func74, Tryz.func123, Tryz.func75, Tryz.func127, trivial⟩ (fun _ => []) [] fun x => by kernel_rfl
noncomputable def r8clearbit (e : EnvV) (f : FrV) : Option ((ResV × Unit) × (EnvV × FrV × Unit)) :=
 if f.line = 1 then
  (r1mask f.b).bind fun r1 =>
  if f.a = f.a then
   (r2acc e.m 5 f.a (cplU r1.1.1) 0).bind fun r2 =>
   some (((⟨false, 0, 0⟩ : ResV), ()), (({ e with m := r2.2.1 } : EnvV), ({ f with line := wi (f.line + 1) } : FrV), ()))
  else none
 else
 if f.line = 2 then
  (r2acc e.m 1 f.q.bottom 0 0).bind fun r3 =>
  some (((⟨false, 0, 0⟩ : ResV), ()), (({ e with m := r3.2.1 } : EnvV), ({ f with line := wi (f.line + 1), u := r3.1.1 } : FrV), ()))
 else
 if f.line = 3 then
  (r2acc e.m 1 f.q.top 0 0).bind fun r4 =>
  if (wi (wu (f.u - r4.1.1))) ≤ 0 then
   some (((⟨true, 2, 0⟩ : ResV), ()), (({ e with m := r4.2.1 } : EnvV), ({ f with v := r4.1.1 } : FrV), ()))
  else
  some (((⟨false, 0, 0⟩ : ResV), ()), (({ e with m := r4.2.1 } : EnvV), ({ f with line := wi (f.line + 1), v := r4.1.1 } : FrV), ()))
 else
 (r1mask f.b).bind fun r5 =>
 if f.a = f.a then
  (r2acc e.m 4 f.a r5.1.1 0).bind fun r6 =>
  some (((⟨true, 1, 0⟩ : ResV), ()), (({ e with m := r6.2.1 } : EnvV), f, ()))
 else none
noncomputable abbrev r8clearbit_k : Con SR1 := ⟨124, [.ref 12, .ref 8], [.val 10], fun x => r8clearbit x.1 x.2.1⟩
noncomputable def r8clearbit_tb : List (Nat × Func) := [(162, Tryz.f162), (125, Tryz.f125), (74, Tryz.f74), (123, Tryz.f123), (121, Tryz.f121)]
theorem r8clearbit_ok : CO Tryz.prog r8clearbit_k := co_fn mixed Tryz.func124 [r1mask_k, r2acc_k] ⟨r1mask_ok, r2acc_ok, trivial⟩ r8clearbit_tb ⟨Tryz.func162, Tryz.func125, Tryz.func74, Tryz.func123, Tryz.func121, trivial⟩ (fun _ => []) [] fun x => by kernel_rfl
noncomputable def r8insert (e : EnvV) (f : FrV) : Option ((ResV × Unit) × (EnvV × FrV × Unit)) :=
 if f.line = 1 then
  (r2acc e.m 1 2 0 0).bind fun r1 =>
  if e.c.heap ≤ (wi (r1.1.1)) then
   some (((⟨true, 3, 0⟩ : ResV), ()), (({ e with m := r1.2.1 } : EnvV), ({ f with n := wi (r1.1.1) } : FrV), ()))
  else
  some (((⟨false, 0, 0⟩ : ResV), ()), (({ e with m := r1.2.1 } : EnvV), ({ f with line := wi (f.line + 1), n := wi (r1.1.1) } : FrV), ()))
 else
 if f.line = 2 then
  (r2acc e.m 6 3 1 0).bind fun r2 =>
  if f.b = f.b then
   if f.a = f.a then
    (r1pack f.a (wi (r2.1.1)) f.b).bind fun r3 =>
    if (!r3.1.2.1) = true then
     some (((⟨true, 4, 0⟩ : ResV), ()), (({ e with m := r2.2.1 } : EnvV), f, ()))
    else
    if f.n ≤ 0 then
     some (((⟨false, 0, 0⟩ : ResV), ()), (({ e with m := r2.2.1 } : EnvV), ({ f with line := 5, i := f.n, w := r3.1.1 } : FrV), ()))
    else
    some (((⟨false, 0, 0⟩ : ResV), ()), (({ e with m := r2.2.1 } : EnvV), ({ f with line := wi (f.line + 1), i := f.n, w := r3.1.1 } : FrV), ()))
   else none
  else none
 else
 if f.line = 3 then
  (r6slot e.c (wi (Int.tdiv (wi (f.i - 1)) 2))).bind fun r4 =>
  (r2acc e.m 1 r4.1.1 0 0).bind fun r5 =>
  if r5.1.1 ≤ f.w then
   some (((⟨false, 0, 0⟩ : ResV), ()), (({ e with m := r5.2.1 } : EnvV), ({ f with line := 5, x := r5.1.1 } : FrV), ()))
  else
  some (((⟨false, 0, 0⟩ : ResV), ()), (({ e with m := r5.2.1 } : EnvV), ({ f with line := wi (f.line + 1), x := r5.1.1 } : FrV), ()))
 else
 if f.line = 4 then
  (r6slot e.c f.i).bind fun r6 =>
  if f.x = f.x then
   (r2acc e.m 2 r6.1.1 f.x 0).bind fun r7 =>
   if (wi (Int.tdiv (wi (f.i - 1)) 2)) ≤ 0 then
    some (((⟨false, 0, 0⟩ : ResV), ()), (({ e with m := r7.2.1 } : EnvV), ({ f with line := 5, i := wi (Int.tdiv (wi (f.i - 1)) 2) } : FrV), ()))
   else
   some (((⟨false, 0, 0⟩ : ResV), ()), (({ e with m := r7.2.1 } : EnvV), ({ f with line := 3, i := wi (Int.tdiv (wi (f.i - 1)) 2) } : FrV), ()))
  else none
 else
 if f.line = 5 then
  (r6slot e.c f.i).bind fun r8 =>
  if f.w = f.w then
   (r2acc e.m 2 r8.1.1 f.w 0).bind fun r9 =>
   some (((⟨false, 0, 0⟩ : ResV), ()), (({ e with m := r9.2.1 } : EnvV), ({ f with line := wi (f.line + 1) } : FrV), ()))
  else none
 else
 (r2acc e.m 2 2 (wu (wi (f.n + 1))) 0).bind fun r10 =>
 some (((⟨true, 0, 0⟩ : ResV), ()), (({ e with m := r10.2.1 } : EnvV), f, ()))
noncomputable abbrev r8insert_k : Con SR1 := ⟨129, [.ref 12, .ref 8], [.val 10], fun x => r8insert x.1 x.2.1⟩
noncomputable def r8insert_tb : List (Nat × Func) := [(125, Tryz.f125), (123, Tryz.f123), (165, Tryz.f165), (128, Tryz.f128)]
theorem r8insert_ok : CO Tryz.prog r8insert_k := co_fn mixed Tryz.func129 [r2acc_k, r1pack_k, r6slot_k] ⟨r2acc_ok, r1pack_ok, r6slot_ok, trivial⟩ r8insert_tb ⟨Tryz.func125, Tryz.func123, Tryz.func165, Tryz.func128, trivial⟩ (fun _ => []) [] fun x => by kernel_rfl
noncomputable def r8env_emit (e : EnvV) (a : Int) (b : Int) (c : Int) (d : Int) (i : Int) : Option ((Unit) × (EnvV × Unit)) :=
 if (((e.evs.length + ([(⟨a, b, c, d, i⟩ : Ev)] : List Ev).length : Nat)) : Int) < 1000000000000 then
  some ((()), (({ e with evs := e.evs ++ ([(⟨a, b, c, d, i⟩ : Ev)]) } : EnvV), ()))
 else none
noncomputable abbrev r8env_emit_k : Con SR1 := ⟨141, [.ref 12, .sh sI_, .sh sI_, .sh sI_, .sh sI_, .sh sI_], [], fun x => r8env_emit x.1 x.2.1 x.2.2.1 x.2.2.2.1 x.2.2.2.2.1 x.2.2.2.2.2.1⟩
theorem r8env_emit_ok : CO Tryz.prog r8env_emit_k := co_fn mixed Tryz.func141 [] trivial [] trivial (fun _ => []) [] fun x => by kernel_rfl
noncomputable def r8lesser (f : FrV) : Option ((Int × Unit) × (FrV × Unit)) :=
 if f.w < f.v then
  some ((7, ()), (f, ()))
 else
 some ((8, ()), (f, ()))
noncomputable abbrev r8lesser_k : Con SR1 := ⟨167, [.ref 8], [.sh sI_], fun x => r8lesser x.1⟩
theorem r8lesser_ok : CO Tryz.prog r8lesser_k := co_fn mixed Tryz.func167 [] trivial [] trivial (fun _ => []) [] fun x => by kernel_rfl
noncomputable def r8remove (e : EnvV) (f : FrV) : Option ((ResV × Unit) × (EnvV × FrV × Unit)) :=
 (r1unpack f.u).bind fun r1 =>
 if f.line = 1 then
  (r2acc e.m 1 2 0 0).bind fun r2 =>
  if (wi (r2.1.1)) ≤ 0 then
   some (((⟨true, 2, 0⟩ : ResV), ()), (({ e with m := r2.2.1 } : EnvV), ({ f with n := wi (r2.1.1) } : FrV), ()))
  else
  some (((⟨false, 0, 0⟩ : ResV), ()), (({ e with m := r2.2.1 } : EnvV), ({ f with line := wi (f.line + 1), n := wi (r2.1.1) } : FrV), ()))
 else
 if f.line = 2 then
  (r6slot e.c 0).bind fun r3 =>
  (r2acc e.m 1 r3.1.1 0 0).bind fun r4 =>
  some (((⟨false, 0, 0⟩ : ResV), ()), (({ e with m := r4.2.1 } : EnvV), ({ f with line := wi (f.line + 1), u := r4.1.1 } : FrV), ()))
 else
 if f.line = 3 then
  (r6slot e.c (wi (f.n - 1))).bind fun r5 =>
  (r2acc e.m 1 r5.1.1 0 0).bind fun r6 =>
  some (((⟨false, 0, 0⟩ : ResV), ()), (({ e with m := r6.2.1 } : EnvV), ({ f with line := wi (f.line + 1), v := r6.1.1 } : FrV), ()))
 else
 if f.line = 4 then
  (r2acc e.m 2 2 (wu (wi (f.n - 1))) 0).bind fun r7 =>
  (r8env_emit ({ e with m := r7.2.1 } : EnvV) 13 f.a r1.1.2.2.1 0 0).bind fun r8 =>
  if f.n = 1 then
   some (((⟨true, 1, r1.1.2.2.1⟩ : ResV), ()), (r8.2.1, f, ()))
  else
  if 1 < (wi (f.n - 1)) then
   some (((⟨false, 0, 0⟩ : ResV), ()), (r8.2.1, ({ f with line := 5, i := 0 } : FrV), ()))
  else
  some (((⟨false, 0, 0⟩ : ResV), ()), (r8.2.1, ({ f with line := 8, i := 0 } : FrV), ()))
 else
 if f.line = 5 then
  (r6slot e.c (wi ((wi (2 * f.i)) + 1))).bind fun r9 =>
  (r2acc e.m 1 r9.1.1 0 0).bind fun r10 =>
  if (wi (f.n - 1)) ≤ (wi ((wi (2 * f.i)) + 2)) then
   (r8lesser ({ f with j := wi ((wi (2 * f.i)) + 1), w := r10.1.1 } : FrV)).bind fun r11 =>
   some (((⟨false, 0, 0⟩ : ResV), ()), (({ e with m := r10.2.1 } : EnvV), ({ r11.2.1 with line := r11.1.1 } : FrV), ()))
  else
  some (((⟨false, 0, 0⟩ : ResV), ()), (({ e with m := r10.2.1 } : EnvV), ({ f with line := wi (f.line + 1), j := wi ((wi (2 * f.i)) + 1), w := r10.1.1 } : FrV), ()))
 else
 if f.line = 6 then
  (r6slot e.c (wi ((wi (2 * f.i)) + 2))).bind fun r12 =>
  (r2acc e.m 1 r12.1.1 0 0).bind fun r13 =>
  if r13.1.1 < f.w then
   (r8lesser ({ f with j := wi ((wi (2 * f.i)) + 2), w := r13.1.1 } : FrV)).bind fun r14 =>
   some (((⟨false, 0, 0⟩ : ResV), ()), (({ e with m := r13.2.1 } : EnvV), ({ r14.2.1 with line := r14.1.1 } : FrV), ()))
  else
  (r8lesser f).bind fun r15 =>
  some (((⟨false, 0, 0⟩ : ResV), ()), (({ e with m := r13.2.1 } : EnvV), ({ r15.2.1 with line := r15.1.1 } : FrV), ()))
 else
 if f.line = 7 then
  (r6slot e.c f.i).bind fun r16 =>
  if f.w = f.w then
   (r2acc e.m 2 r16.1.1 f.w 0).bind fun r17 =>
   if (wi ((wi (2 * f.j)) + 1)) < (wi (f.n - 1)) then
    some (((⟨false, 0, 0⟩ : ResV), ()), (({ e with m := r17.2.1 } : EnvV), ({ f with line := 5, i := f.j } : FrV), ()))
   else
   some (((⟨false, 0, 0⟩ : ResV), ()), (({ e with m := r17.2.1 } : EnvV), ({ f with line := 8, i := f.j } : FrV), ()))
  else none
 else
 (r6slot e.c f.i).bind fun r18 =>
 if f.v = f.v then
  (r2acc e.m 2 r18.1.1 f.v 0).bind fun r19 =>
  some (((⟨true, 1, r1.1.2.2.1⟩ : ResV), ()), (({ e with m := r19.2.1 } : EnvV), f, ()))
 else none
noncomputable abbrev r8remove_k : Con SR1 := ⟨130, [.ref 12, .ref 8], [.val 10], fun x => r8remove x.1 x.2.1⟩
noncomputable def r8remove_tb : List (Nat × Func) := [(125, Tryz.f125), (123, Tryz.f123), (128, Tryz.f128), (166, Tryz.f166)]
theorem r8remove_ok : CO Tryz.prog r8remove_k := co_fn mixed Tryz.func130 [r1unpack_k, r2acc_k, r6slot_k, r8env_emit_k, r8lesser_k] ⟨r1unpack_ok, r2acc_ok, r6slot_ok, r8env_emit_ok, r8lesser_ok, trivial⟩ r8remove_tb ⟨Tryz.func125, Tryz.func123, Tryz.func128, Tryz.func166, trivial⟩ (fun _ => []) [] fun x => by kernel_rfl
noncomputable def r8claim (e : EnvV) (f : FrV) : Option ((ResV × Unit) × (EnvV × FrV × Unit)) :=
 (r6state e.c f.b).bind fun r1 =>
 (r2acc e.m 3 r1.1.1 1 2).bind fun r2 =>
 if (!r2.1.2.1) = true then
  (r8env_emit ({ e with m := r2.2.1 } : EnvV) 15 f.a f.b 0 0).bind fun r3 =>
  some (((⟨true, 4, 0⟩ : ResV), ()), (r3.2.1, f, ()))
 else
 if 0 ≤ f.b ∧ f.b < ((e.recs.length : Nat) : Int) then
  if (atK7 e.recs f.b).started = true then
   if 0 ≤ f.b ∧ f.b < ((e.recs.length : Nat) : Int) then
    (r8env_emit ({ e with m := r2.2.1, recs := e.recs.set f.b.toNat ({ atK7 e.recs f.b with started := true } : RecV) } : EnvV) 9 f.a f.b 0 0).bind fun r4 =>
    some (((⟨true, 1, f.b⟩ : ResV), ()), (r4.2.1, f, ()))
   else none
  else
  if 0 ≤ f.b ∧ f.b < ((e.recs.length : Nat) : Int) then
   (r8env_emit ({ e with m := r2.2.1, recs := e.recs.set f.b.toNat ({ atK7 e.recs f.b with started := true } : RecV) } : EnvV) 5 f.a f.b 0 0).bind fun r5 =>
   some (((⟨true, 1, f.b⟩ : ResV), ()), (r5.2.1, f, ()))
  else none
 else none
noncomputable abbrev r8claim_k : Con SR1 := ⟨168, [.ref 12, .ref 8], [.val 10], fun x => r8claim x.1 x.2.1⟩
noncomputable def r8claim_tb : List (Nat × Func) := [(127, Tryz.f127), (123, Tryz.f123)]
theorem r8claim_ok : CO Tryz.prog r8claim_k := co_fn mixed Tryz.func168 [r6state_k, r2acc_k, r8env_emit_k] ⟨r6state_ok, r2acc_ok, r8env_emit_ok, trivial⟩ r8claim_tb ⟨Tryz.func127, Tryz.func123, trivial⟩ (fun _ => []) [] fun x => by kernel_rfl
end Go.Proofs.YtpbkelpokpglaaaGreat
