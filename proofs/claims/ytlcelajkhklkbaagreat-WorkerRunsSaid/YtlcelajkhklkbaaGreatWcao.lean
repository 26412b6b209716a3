/- The program's machines in the evaluator's form. The program's machines in the evaluator's form. The program's machines in the evaluator's form: all. The program's machines, said plainly: their states, and what a step does. No program occurs here but its numbers. -/
import Derived.Test.YtlcelajkhklkbaaGreatWcan
set_option linter.all false
namespace Go.Proofs.YtlcelajkhklkbaaGreat
section
open Go Go.RowKit
set_option maxRecDepth 100000
variable [Tb]
noncomputable def adP (y0 : (RunV MV)) (y1 : EnvP) : Option ((Bool × Unit) × ((RunV MV) × EnvP × Unit)) :=
 agr (
  if 0 ≤ wi (((y0.stack.length : Nat) : Int) - 1) ∧ wi (((y0.stack.length : Nat) : Int) - 1) < ((y0.stack.length : Nat) : Int) then
   if y1.l.workers = y1.l.workers then
   if y1.l.levels = y1.l.levels then
   if y1.l.classes = y1.l.classes then
   if y1.l.tasks = y1.l.tasks then
   if y1.l.deque = y1.l.deque then
   if y1.l.heap = y1.l.heap then
   if y1.l.sleepers = y1.l.sleepers then
   if y1.l.epochs = y1.l.epochs then
   if y1.l.bitmaps = y1.l.bitmaps then
   if y1.l.queues = y1.l.queues then
   if y1.l.table = y1.l.table then
   if y1.l.workers = y1.l.workers then
   if y1.l.levels = y1.l.levels then
   if y1.l.classes = y1.l.classes then
   if y1.l.tasks = y1.l.tasks then
   if y1.l.deque = y1.l.deque then
   if y1.l.heap = y1.l.heap then
   if y1.l.sleepers = y1.l.sleepers then
   if y1.l.epochs = y1.l.epochs then
   if y1.l.bitmaps = y1.l.bitmaps then
   if y1.l.queues = y1.l.queues then
   if y1.l.table = y1.l.table then
   if y0.line = 16 then
   (aef y1.l (aae y0.stack (wi (((y0.stack.length : Nat) : Int) - 1)))).bind fun r29 =>
   (aa4 y1.m r29.1.1 4).bind fun r30 =>
   (aac y0 17 MV.nil).bind fun r31 =>
   some ((r31.1.1, ()), (r31.2.1, ({ y1 with m := r30.2.1 } : EnvP), ()))
   else
   if y0.line = 17 then
   (akB y1.l (aae y0.stack (wi (((y0.stack.length : Nat) : Int) - 1)))).bind fun r32 =>
   (an1 y1.m r32.1.1 0 4294967296).bind fun r33 =>
   (aaA y0 ({ y1 with m := r33.2.1 } : EnvP) (⟨10, 0, aae y0.stack (wi (((y0.stack.length : Nat) : Int) - 1)), 0, 0⟩ : Ev)).bind fun r34 =>
   if r33.1.1 = true then
   (aan r34.2.1).bind fun r35 =>
   some ((r35.1.1, ()), (r35.2.1, r34.2.2.1, ()))
   else
   (aac r34.2.1 18 MV.nil).bind fun r36 =>
   some ((r36.1.1, ()), (r36.2.1, r34.2.2.1, ()))
   else
   if y0.line = 18 then
   (akB y1.l (aae y0.stack (wi (((y0.stack.length : Nat) : Int) - 1)))).bind fun r37 =>
   (ab3 y1.m r37.1.1).bind fun r38 =>
   if (wi ((wi (r38.1.1)) - 1)) < 0 then
   (aan ({ y0 with waiter := wi ((wi (r38.1.1)) - 1) } : (RunV MV))).bind fun r39 =>
   some ((r39.1.1, ()), (r39.2.1, ({ y1 with m := r38.2.1 } : EnvP), ()))
   else
   if y1.c.tasks ≤ (wi ((wi (r38.1.1)) - 1)) then
   (aan ({ y0 with waiter := wi ((wi (r38.1.1)) - 1) } : (RunV MV))).bind fun r40 =>
   some ((r40.1.1, ()), (r40.2.1, ({ y1 with m := r38.2.1 } : EnvP), ()))
   else
   (afv y0.worker (wi ((wi (r38.1.1)) - 1))).bind fun r41 =>
   (aac ({ y0 with waiter := wi ((wi (r38.1.1)) - 1) } : (RunV MV)) 19 r41.1.1).bind fun r42 =>
   some ((r42.1.1, ()), (r42.2.1, ({ y1 with m := r38.2.1 } : EnvP), ()))
   else
   (adJ y0.inside y1).bind fun r43 =>
   if (!r43.1.1) = true then
   some ((false, ()), (({ y0 with inside := r43.2.1 } : (RunV MV)), r43.2.2.1, ()))
   else
   (acB r43.2.1).bind fun r44 =>
   if y0.line = 19 then
   if r44.1.1 = 3 then
   (abJ y0.worker y0.waiter).bind fun r45 =>
   (aac ({ y0 with inside := r44.2.1 } : (RunV MV)) 21 r45.1.1).bind fun r46 =>
   some ((r46.1.1, ()), (r46.2.1, r43.2.2.1, ()))
   else
   if y0.line = 19 then
   (acm y0.worker r44.1.2.1).bind fun r47 =>
   (aac ({ y0 with inside := r44.2.1 } : (RunV MV)) 20 r47.1.1).bind fun r48 =>
   some ((r48.1.1, ()), (r48.2.1, r43.2.2.1, ()))
   else
   if y0.line = 21 then
   if r44.1.1 = 1 then
   if 0 ≤ wi (((y0.stack.length : Nat) : Int) - 1) ∧ wi (((y0.stack.length : Nat) : Int) - 1) < ((y0.stack.length : Nat) : Int) then
   (aac ({ y0 with stack := y0.stack.set (wi (((y0.stack.length : Nat) : Int) - 1)).toNat y0.waiter, inside := r44.2.1 } : (RunV MV)) 0 MV.nil).bind fun r49 =>
   some ((r49.1.1, ()), (r49.2.1, r43.2.2.1, ()))
   else none
   else
   (aan ({ y0 with inside := r44.2.1 } : (RunV MV))).bind fun r50 =>
   some ((r50.1.1, ()), (r50.2.1, r43.2.2.1, ()))
   else
   (aan ({ y0 with inside := r44.2.1 } : (RunV MV))).bind fun r51 =>
   some ((r51.1.1, ()), (r51.2.1, r43.2.2.1, ()))
   else
   if y0.line = 19 then
   (acm y0.worker r44.1.2.1).bind fun r52 =>
   (aac ({ y0 with inside := r44.2.1 } : (RunV MV)) 20 r52.1.1).bind fun r53 =>
   some ((r53.1.1, ()), (r53.2.1, r43.2.2.1, ()))
   else
   if y0.line = 21 then
   if r44.1.1 = 1 then
   if 0 ≤ wi (((y0.stack.length : Nat) : Int) - 1) ∧ wi (((y0.stack.length : Nat) : Int) - 1) < ((y0.stack.length : Nat) : Int) then
   (aac ({ y0 with stack := y0.stack.set (wi (((y0.stack.length : Nat) : Int) - 1)).toNat y0.waiter, inside := r44.2.1 } : (RunV MV)) 0 MV.nil).bind fun r54 =>
   some ((r54.1.1, ()), (r54.2.1, r43.2.2.1, ()))
   else none
   else
   (aan ({ y0 with inside := r44.2.1 } : (RunV MV))).bind fun r55 =>
   some ((r55.1.1, ()), (r55.2.1, r43.2.2.1, ()))
   else
   (aan ({ y0 with inside := r44.2.1 } : (RunV MV))).bind fun r56 =>
   some ((r56.1.1, ()), (r56.2.1, r43.2.2.1, ()))
   else none
   else none
   else none
   else none
   else none
   else none
   else none
   else none
   else none
   else none
   else none
   else none
   else none
   else none
   else none
   else none
   else none
   else none
   else none
   else none
   else none
   else none
  else none
 ) (
  if y1.l.workers = y1.l.workers then
   if y1.l.levels = y1.l.levels then
   if y1.l.classes = y1.l.classes then
   if y1.l.tasks = y1.l.tasks then
   if y1.l.deque = y1.l.deque then
   if y1.l.heap = y1.l.heap then
   if y1.l.sleepers = y1.l.sleepers then
   if y1.l.epochs = y1.l.epochs then
   if y1.l.bitmaps = y1.l.bitmaps then
   if y1.l.queues = y1.l.queues then
   if y1.l.table = y1.l.table then
   if 0 ≤ wi (((y0.stack.length : Nat) : Int) - 1) ∧ wi (((y0.stack.length : Nat) : Int) - 1) < ((y0.stack.length : Nat) : Int) then
   if y1.l.workers = y1.l.workers then
   if y1.l.levels = y1.l.levels then
   if y1.l.classes = y1.l.classes then
   if y1.l.tasks = y1.l.tasks then
   if y1.l.deque = y1.l.deque then
   if y1.l.heap = y1.l.heap then
   if y1.l.sleepers = y1.l.sleepers then
   if y1.l.epochs = y1.l.epochs then
   if y1.l.bitmaps = y1.l.bitmaps then
   if y1.l.queues = y1.l.queues then
   if y1.l.table = y1.l.table then
   if y0.line = 16 then
   (aef y1.l (aae y0.stack (wi (((y0.stack.length : Nat) : Int) - 1)))).bind fun r1 =>
   (aa4 y1.m r1.1.1 4).bind fun r2 =>
   (aac y0 17 MV.nil).bind fun r3 =>
   some ((r3.1.1, ()), (r3.2.1, ({ y1 with m := r2.2.1 } : EnvP), ()))
   else
   if y0.line = 17 then
   (akB y1.l (aae y0.stack (wi (((y0.stack.length : Nat) : Int) - 1)))).bind fun r4 =>
   (an1 y1.m r4.1.1 0 4294967296).bind fun r5 =>
   (aaA y0 ({ y1 with m := r5.2.1 } : EnvP) (⟨10, 0, aae y0.stack (wi (((y0.stack.length : Nat) : Int) - 1)), 0, 0⟩ : Ev)).bind fun r6 =>
   if r5.1.1 = true then
   (aan r6.2.1).bind fun r7 =>
   some ((r7.1.1, ()), (r7.2.1, r6.2.2.1, ()))
   else
   (aac r6.2.1 18 MV.nil).bind fun r8 =>
   some ((r8.1.1, ()), (r8.2.1, r6.2.2.1, ()))
   else
   if y0.line = 18 then
   (akB y1.l (aae y0.stack (wi (((y0.stack.length : Nat) : Int) - 1)))).bind fun r9 =>
   (ab3 y1.m r9.1.1).bind fun r10 =>
   if (wi ((wi (r10.1.1)) - 1)) < 0 then
   (aan ({ y0 with waiter := wi ((wi (r10.1.1)) - 1) } : (RunV MV))).bind fun r11 =>
   some ((r11.1.1, ()), (r11.2.1, ({ y1 with m := r10.2.1 } : EnvP), ()))
   else
   if y1.c.tasks ≤ (wi ((wi (r10.1.1)) - 1)) then
   (aan ({ y0 with waiter := wi ((wi (r10.1.1)) - 1) } : (RunV MV))).bind fun r12 =>
   some ((r12.1.1, ()), (r12.2.1, ({ y1 with m := r10.2.1 } : EnvP), ()))
   else
   (afv y0.worker (wi ((wi (r10.1.1)) - 1))).bind fun r13 =>
   (aac ({ y0 with waiter := wi ((wi (r10.1.1)) - 1) } : (RunV MV)) 19 r13.1.1).bind fun r14 =>
   some ((r14.1.1, ()), (r14.2.1, ({ y1 with m := r10.2.1 } : EnvP), ()))
   else
   (adJ y0.inside y1).bind fun r15 =>
   if (!r15.1.1) = true then
   some ((false, ()), (({ y0 with inside := r15.2.1 } : (RunV MV)), r15.2.2.1, ()))
   else
   (acB r15.2.1).bind fun r16 =>
   if y0.line = 19 then
   if r16.1.1 = 3 then
   (abJ y0.worker y0.waiter).bind fun r17 =>
   (aac ({ y0 with inside := r16.2.1 } : (RunV MV)) 21 r17.1.1).bind fun r18 =>
   some ((r18.1.1, ()), (r18.2.1, r15.2.2.1, ()))
   else
   if y0.line = 19 then
   (acm y0.worker r16.1.2.1).bind fun r19 =>
   (aac ({ y0 with inside := r16.2.1 } : (RunV MV)) 20 r19.1.1).bind fun r20 =>
   some ((r20.1.1, ()), (r20.2.1, r15.2.2.1, ()))
   else
   if y0.line = 21 then
   if r16.1.1 = 1 then
   if 0 ≤ wi (((y0.stack.length : Nat) : Int) - 1) ∧ wi (((y0.stack.length : Nat) : Int) - 1) < ((y0.stack.length : Nat) : Int) then
   (aac ({ y0 with stack := y0.stack.set (wi (((y0.stack.length : Nat) : Int) - 1)).toNat y0.waiter, inside := r16.2.1 } : (RunV MV)) 0 MV.nil).bind fun r21 =>
   some ((r21.1.1, ()), (r21.2.1, r15.2.2.1, ()))
   else none
   else
   (aan ({ y0 with inside := r16.2.1 } : (RunV MV))).bind fun r22 =>
   some ((r22.1.1, ()), (r22.2.1, r15.2.2.1, ()))
   else
   (aan ({ y0 with inside := r16.2.1 } : (RunV MV))).bind fun r23 =>
   some ((r23.1.1, ()), (r23.2.1, r15.2.2.1, ()))
   else
   if y0.line = 19 then
   (acm y0.worker r16.1.2.1).bind fun r24 =>
   (aac ({ y0 with inside := r16.2.1 } : (RunV MV)) 20 r24.1.1).bind fun r25 =>
   some ((r25.1.1, ()), (r25.2.1, r15.2.2.1, ()))
   else
   if y0.line = 21 then
   if r16.1.1 = 1 then
   if 0 ≤ wi (((y0.stack.length : Nat) : Int) - 1) ∧ wi (((y0.stack.length : Nat) : Int) - 1) < ((y0.stack.length : Nat) : Int) then
   (aac ({ y0 with stack := y0.stack.set (wi (((y0.stack.length : Nat) : Int) - 1)).toNat y0.waiter, inside := r16.2.1 } : (RunV MV)) 0 MV.nil).bind fun r26 =>
   some ((r26.1.1, ()), (r26.2.1, r15.2.2.1, ()))
   else none
   else
   (aan ({ y0 with inside := r16.2.1 } : (RunV MV))).bind fun r27 =>
   some ((r27.1.1, ()), (r27.2.1, r15.2.2.1, ()))
   else
   (aan ({ y0 with inside := r16.2.1 } : (RunV MV))).bind fun r28 =>
   some ((r28.1.1, ()), (r28.2.1, r15.2.2.1, ()))
   else none
   else none
   else none
   else none
   else none
   else none
   else none
   else none
   else none
   else none
   else none
   else none
   else none
   else none
   else none
   else none
   else none
   else none
   else none
   else none
   else none
   else none
  else none
 )
noncomputable abbrev aeS : Con SR1 := ⟨137, [.ref 32, .ref 27], [.sh .b], fun x => adP x.1 x.2.1⟩
noncomputable def ahL : List (Nat × Func) := [(131, Tryz.f131)]
theorem ahM : CO Tryz.prog aeS := aaq aap Tryz.func137 [afg, acW, ack, apK, aiX, acK, ael, ab2, aj8, akL, ajx, aed, ahx] ⟨aeU, act, acx, aqP, ag5, adb, afC, abz, am0, ak5, ale, aez, aib, trivial⟩ ahL ⟨Tryz.func131, trivial⟩ (fun _ => []) [] fun x => by kernel_rfl
noncomputable def aao (y0 : (RunV MV)) (y1 : EnvP) : Option ((Bool × Unit) × ((RunV MV) × EnvP × Unit)) :=
 if 0 ≤ wi (((y0.stack.length : Nat) : Int) - 1) ∧ wi (((y0.stack.length : Nat) : Int) - 1) < ((y0.stack.length : Nat) : Int) then
  if y0.line = 16 then
   (aef y1.l (aae y0.stack (wi (((y0.stack.length : Nat) : Int) - 1)))).bind fun r1 =>
   (aa4 y1.m r1.1.1 4).bind fun r2 =>
   (aac y0 17 MV.nil).bind fun r3 =>
   some ((r3.1.1, ()), (r3.2.1, ({ y1 with m := r2.2.1 } : EnvP), ()))
  else
  if y0.line = 17 then
   (akB y1.l (aae y0.stack (wi (((y0.stack.length : Nat) : Int) - 1)))).bind fun r4 =>
   (an1 y1.m r4.1.1 0 4294967296).bind fun r5 =>
   (aaA y0 ({ y1 with m := r5.2.1 } : EnvP) (⟨10, 0, aae y0.stack (wi (((y0.stack.length : Nat) : Int) - 1)), 0, 0⟩ : Ev)).bind fun r6 =>
   if r5.1.1 = true then
   (aan r6.2.1).bind fun r7 =>
   some ((r7.1.1, ()), (r7.2.1, r6.2.2.1, ()))
   else
   (aac r6.2.1 18 MV.nil).bind fun r8 =>
   some ((r8.1.1, ()), (r8.2.1, r6.2.2.1, ()))
  else
  if y0.line = 18 then
   (akB y1.l (aae y0.stack (wi (((y0.stack.length : Nat) : Int) - 1)))).bind fun r9 =>
   (ab3 y1.m r9.1.1).bind fun r10 =>
   if (wi ((wi (r10.1.1)) - 1)) < 0 then
   (aan ({ y0 with waiter := wi ((wi (r10.1.1)) - 1) } : (RunV MV))).bind fun r11 =>
   some ((r11.1.1, ()), (r11.2.1, ({ y1 with m := r10.2.1 } : EnvP), ()))
   else
   if y1.c.tasks ≤ (wi ((wi (r10.1.1)) - 1)) then
   (aan ({ y0 with waiter := wi ((wi (r10.1.1)) - 1) } : (RunV MV))).bind fun r12 =>
   some ((r12.1.1, ()), (r12.2.1, ({ y1 with m := r10.2.1 } : EnvP), ()))
   else
   (afv y0.worker (wi ((wi (r10.1.1)) - 1))).bind fun r13 =>
   (aac ({ y0 with waiter := wi ((wi (r10.1.1)) - 1) } : (RunV MV)) 19 r13.1.1).bind fun r14 =>
   some ((r14.1.1, ()), (r14.2.1, ({ y1 with m := r10.2.1 } : EnvP), ()))
  else
  (adJ y0.inside y1).bind fun r15 =>
  if (!r15.1.1) = true then
   some ((false, ()), (({ y0 with inside := r15.2.1 } : (RunV MV)), r15.2.2.1, ()))
  else
  (acB r15.2.1).bind fun r16 =>
  if y0.line = 19 then
   if r16.1.1 = 3 then
   (abJ y0.worker y0.waiter).bind fun r17 =>
   (aac ({ y0 with inside := r16.2.1 } : (RunV MV)) 21 r17.1.1).bind fun r18 =>
   some ((r18.1.1, ()), (r18.2.1, r15.2.2.1, ()))
   else
   if y0.line = 19 then
   (acm y0.worker r16.1.2.1).bind fun r19 =>
   (aac ({ y0 with inside := r16.2.1 } : (RunV MV)) 20 r19.1.1).bind fun r20 =>
   some ((r20.1.1, ()), (r20.2.1, r15.2.2.1, ()))
   else
   if y0.line = 21 then
   if r16.1.1 = 1 then
   if 0 ≤ wi (((y0.stack.length : Nat) : Int) - 1) ∧ wi (((y0.stack.length : Nat) : Int) - 1) < ((y0.stack.length : Nat) : Int) then
   (aac ({ y0 with stack := y0.stack.set (wi (((y0.stack.length : Nat) : Int) - 1)).toNat y0.waiter, inside := r16.2.1 } : (RunV MV)) 0 MV.nil).bind fun r21 =>
   some ((r21.1.1, ()), (r21.2.1, r15.2.2.1, ()))
   else none
   else
   (aan ({ y0 with inside := r16.2.1 } : (RunV MV))).bind fun r22 =>
   some ((r22.1.1, ()), (r22.2.1, r15.2.2.1, ()))
   else
   (aan ({ y0 with inside := r16.2.1 } : (RunV MV))).bind fun r23 =>
   some ((r23.1.1, ()), (r23.2.1, r15.2.2.1, ()))
  else
  if y0.line = 19 then
   (acm y0.worker r16.1.2.1).bind fun r24 =>
   (aac ({ y0 with inside := r16.2.1 } : (RunV MV)) 20 r24.1.1).bind fun r25 =>
   some ((r25.1.1, ()), (r25.2.1, r15.2.2.1, ()))
  else
  if y0.line = 21 then
   if r16.1.1 = 1 then
   if 0 ≤ wi (((y0.stack.length : Nat) : Int) - 1) ∧ wi (((y0.stack.length : Nat) : Int) - 1) < ((y0.stack.length : Nat) : Int) then
   (aac ({ y0 with stack := y0.stack.set (wi (((y0.stack.length : Nat) : Int) - 1)).toNat y0.waiter, inside := r16.2.1 } : (RunV MV)) 0 MV.nil).bind fun r26 =>
   some ((r26.1.1, ()), (r26.2.1, r15.2.2.1, ()))
   else none
   else
   (aan ({ y0 with inside := r16.2.1 } : (RunV MV))).bind fun r27 =>
   some ((r27.1.1, ()), (r27.2.1, r15.2.2.1, ()))
  else
  (aan ({ y0 with inside := r16.2.1 } : (RunV MV))).bind fun r28 =>
  some ((r28.1.1, ()), (r28.2.1, r15.2.2.1, ()))
 else none
noncomputable abbrev afE : Con SR1 := ⟨137, [.ref 32, .ref 27], [.sh .b], fun x => aao x.1 x.2.1⟩
theorem aiA (y0 : (RunV MV)) (y1 : EnvP) : adP y0 y1 = aao y0 y1 := by
  unfold adP aao
  simp only [if_true, aro, amN]
theorem aiz : CO Tryz.prog afE := azx ahM fun x out hx => (show aeS.spec x = some out from (aiA x.1 x.2.1).trans hx)
noncomputable def aa2 (y0 : (RunV MV)) (y1 : EnvP) : Option ((Bool × Unit) × ((RunV MV) × EnvP × Unit)) :=
 (aau y0.o).bind fun r1 =>
 if r1.1.1 = true then
  some ((true, ()), (({ y0 with o := r1.2.1 } : (RunV MV)), y1, ()))
 else
 if 0 ≤ wi (((y0.stack.length : Nat) : Int) - 1) ∧ wi (((y0.stack.length : Nat) : Int) - 1) < ((y0.stack.length : Nat) : Int) then
  if (aae y0.stack (wi (((y0.stack.length : Nat) : Int) - 1))) < 0 then
   (aaX r1.2.1 4 0).bind fun r2 =>
   some ((r2.1.1, ()), (({ y0 with o := r2.2.1 } : (RunV MV)), y1, ()))
  else
  if y1.c.tasks ≤ (aae y0.stack (wi (((y0.stack.length : Nat) : Int) - 1))) then
   (aaX r1.2.1 4 0).bind fun r3 =>
   some ((r3.1.1, ()), (({ y0 with o := r3.2.1 } : (RunV MV)), y1, ()))
  else
  if ((y1.recs.length : Nat) : Int) ≤ (aae y0.stack (wi (((y0.stack.length : Nat) : Int) - 1))) then
   (aaX r1.2.1 4 0).bind fun r4 =>
   some ((r4.1.1, ()), (({ y0 with o := r4.2.1 } : (RunV MV)), y1, ()))
  else
  if y0.line = 0 then
   (adz ({ y0 with o := r1.2.1 } : (RunV MV)) y1).bind fun r5 =>
   if r5.1.1 = 4 then
   (afZ).bind fun r6 =>
   if r5.1.1 = 1 then
   (aaz ({ r5.2.1 with line := r5.1.1, inside := r6.1.1 } : (RunV MV)) r5.2.2.1).bind fun r7 =>
   some ((r7.1.1, ()), (r7.2.1, r7.2.2.1, ()))
   else
   if r5.1.1 = 2 then
   (aaz ({ r5.2.1 with line := r5.1.1, inside := r6.1.1 } : (RunV MV)) r5.2.2.1).bind fun r8 =>
   some ((r8.1.1, ()), (r8.2.1, r8.2.2.1, ()))
   else
   if r5.1.1 = 3 then
   (aaz ({ r5.2.1 with line := r5.1.1, inside := r6.1.1 } : (RunV MV)) r5.2.2.1).bind fun r9 =>
   some ((r9.1.1, ()), (r9.2.1, r9.2.2.1, ()))
   else
   if 4 ≤ r5.1.1 then
   if r5.1.1 ≤ 8 then
   (aaZ ({ r5.2.1 with line := r5.1.1, inside := r6.1.1 } : (RunV MV)) r5.2.2.1).bind fun r10 =>
   some ((r10.1.1, ()), (r10.2.1, r10.2.2.1, ()))
   else
   if 9 ≤ r5.1.1 then
   if r5.1.1 ≤ 15 then
   (aaD ({ r5.2.1 with line := r5.1.1, inside := r6.1.1 } : (RunV MV)) r5.2.2.1).bind fun r11 =>
   some ((r11.1.1, ()), (r11.2.1, r11.2.2.1, ()))
   else
   (aao ({ r5.2.1 with line := r5.1.1, inside := r6.1.1 } : (RunV MV)) r5.2.2.1).bind fun r12 =>
   some ((r12.1.1, ()), (r12.2.1, r12.2.2.1, ()))
   else
   (aao ({ r5.2.1 with line := r5.1.1, inside := r6.1.1 } : (RunV MV)) r5.2.2.1).bind fun r13 =>
   some ((r13.1.1, ()), (r13.2.1, r13.2.2.1, ()))
   else
   if 9 ≤ r5.1.1 then
   if r5.1.1 ≤ 15 then
   (aaD ({ r5.2.1 with line := r5.1.1, inside := r6.1.1 } : (RunV MV)) r5.2.2.1).bind fun r14 =>
   some ((r14.1.1, ()), (r14.2.1, r14.2.2.1, ()))
   else
   (aao ({ r5.2.1 with line := r5.1.1, inside := r6.1.1 } : (RunV MV)) r5.2.2.1).bind fun r15 =>
   some ((r15.1.1, ()), (r15.2.1, r15.2.2.1, ()))
   else
   (aao ({ r5.2.1 with line := r5.1.1, inside := r6.1.1 } : (RunV MV)) r5.2.2.1).bind fun r16 =>
   some ((r16.1.1, ()), (r16.2.1, r16.2.2.1, ()))
   else
   if r5.1.1 = 1 then
   (aaz ({ r5.2.1 with line := r5.1.1 } : (RunV MV)) r5.2.2.1).bind fun r17 =>
   some ((r17.1.1, ()), (r17.2.1, r17.2.2.1, ()))
   else
   if r5.1.1 = 2 then
   (aaz ({ r5.2.1 with line := r5.1.1 } : (RunV MV)) r5.2.2.1).bind fun r18 =>
   some ((r18.1.1, ()), (r18.2.1, r18.2.2.1, ()))
   else
   if r5.1.1 = 3 then
   (aaz ({ r5.2.1 with line := r5.1.1 } : (RunV MV)) r5.2.2.1).bind fun r19 =>
   some ((r19.1.1, ()), (r19.2.1, r19.2.2.1, ()))
   else
   if 4 ≤ r5.1.1 then
   if r5.1.1 ≤ 8 then
   (aaZ ({ r5.2.1 with line := r5.1.1 } : (RunV MV)) r5.2.2.1).bind fun r20 =>
   some ((r20.1.1, ()), (r20.2.1, r20.2.2.1, ()))
   else
   if 9 ≤ r5.1.1 then
   if r5.1.1 ≤ 15 then
   (aaD ({ r5.2.1 with line := r5.1.1 } : (RunV MV)) r5.2.2.1).bind fun r21 =>
   some ((r21.1.1, ()), (r21.2.1, r21.2.2.1, ()))
   else
   (aao ({ r5.2.1 with line := r5.1.1 } : (RunV MV)) r5.2.2.1).bind fun r22 =>
   some ((r22.1.1, ()), (r22.2.1, r22.2.2.1, ()))
   else
   (aao ({ r5.2.1 with line := r5.1.1 } : (RunV MV)) r5.2.2.1).bind fun r23 =>
   some ((r23.1.1, ()), (r23.2.1, r23.2.2.1, ()))
   else
   if 9 ≤ r5.1.1 then
   if r5.1.1 ≤ 15 then
   (aaD ({ r5.2.1 with line := r5.1.1 } : (RunV MV)) r5.2.2.1).bind fun r24 =>
   some ((r24.1.1, ()), (r24.2.1, r24.2.2.1, ()))
   else
   (aao ({ r5.2.1 with line := r5.1.1 } : (RunV MV)) r5.2.2.1).bind fun r25 =>
   some ((r25.1.1, ()), (r25.2.1, r25.2.2.1, ()))
   else
   (aao ({ r5.2.1 with line := r5.1.1 } : (RunV MV)) r5.2.2.1).bind fun r26 =>
   some ((r26.1.1, ()), (r26.2.1, r26.2.2.1, ()))
  else
  if y0.line = 1 then
   (aaz ({ y0 with o := r1.2.1 } : (RunV MV)) y1).bind fun r27 =>
   some ((r27.1.1, ()), (r27.2.1, r27.2.2.1, ()))
  else
  if y0.line = 2 then
   (aaz ({ y0 with o := r1.2.1 } : (RunV MV)) y1).bind fun r28 =>
   some ((r28.1.1, ()), (r28.2.1, r28.2.2.1, ()))
  else
  if y0.line = 3 then
   (aaz ({ y0 with o := r1.2.1 } : (RunV MV)) y1).bind fun r29 =>
   some ((r29.1.1, ()), (r29.2.1, r29.2.2.1, ()))
  else
  if 4 ≤ y0.line then
   if y0.line ≤ 8 then
   (aaZ ({ y0 with o := r1.2.1 } : (RunV MV)) y1).bind fun r30 =>
   some ((r30.1.1, ()), (r30.2.1, r30.2.2.1, ()))
   else
   if 9 ≤ y0.line then
   if y0.line ≤ 15 then
   (aaD ({ y0 with o := r1.2.1 } : (RunV MV)) y1).bind fun r31 =>
   some ((r31.1.1, ()), (r31.2.1, r31.2.2.1, ()))
   else
   (aao ({ y0 with o := r1.2.1 } : (RunV MV)) y1).bind fun r32 =>
   some ((r32.1.1, ()), (r32.2.1, r32.2.2.1, ()))
   else
   (aao ({ y0 with o := r1.2.1 } : (RunV MV)) y1).bind fun r33 =>
   some ((r33.1.1, ()), (r33.2.1, r33.2.2.1, ()))
  else
  if 9 ≤ y0.line then
   if y0.line ≤ 15 then
   (aaD ({ y0 with o := r1.2.1 } : (RunV MV)) y1).bind fun r34 =>
   some ((r34.1.1, ()), (r34.2.1, r34.2.2.1, ()))
   else
   (aao ({ y0 with o := r1.2.1 } : (RunV MV)) y1).bind fun r35 =>
   some ((r35.1.1, ()), (r35.2.1, r35.2.2.1, ()))
  else
  (aao ({ y0 with o := r1.2.1 } : (RunV MV)) y1).bind fun r36 =>
  some ((r36.1.1, ()), (r36.2.1, r36.2.2.1, ()))
 else none
noncomputable abbrev ala : Con SR1 := ⟨130, [.ref 32, .ref 27], [.sh .b], fun x => aa2 x.1 x.2.1⟩
noncomputable def akr : List (Nat × Func) := [(131, Tryz.f131)]
theorem aks : CO Tryz.prog ala := aaq aap Tryz.func130 [aa8, abU, afF, agO, afB, agt, agU, afE] ⟨aaT, abc, aiC, akp, aiw, ajv, akt, aiz, trivial⟩ akr ⟨Tryz.func131, trivial⟩ (fun _ => []) [] fun x => by kernel_rfl
noncomputable def afw (m : MV) (e : EnvP) : Option ((Bool × Unit) × (MV × EnvP × Unit)) :=
 match m with
 | .alloc x => (abm x e).bind fun o => some (o.1, (MV.alloc o.2.1, o.2.2))
 | .publish x => (abg x e).bind fun o => some (o.1, (MV.publish o.2.1, o.2.2))
 | .claim x => (ab1 x e).bind fun o => some (o.1, (MV.claim o.2.1, o.2.2))
 | .attempt x => (abP x e).bind fun o => some (o.1, (MV.attempt o.2.1, o.2.2))
 | .release x => (abO x e).bind fun o => some (o.1, (MV.release o.2.1, o.2.2))
 | .opush x => (acn x e).bind fun o => some (o.1, (MV.opush o.2.1, o.2.2))
 | .opop x => (acL x e).bind fun o => some (o.1, (MV.opop o.2.1, o.2.2))
 | .steal x => (ab0 x e).bind fun o => some (o.1, (MV.steal o.2.1, o.2.2))
 | .set x => (aco x e).bind fun o => some (o.1, (MV.set o.2.1, o.2.2))
 | .reset x => (abR x e).bind fun o => some (o.1, (MV.reset o.2.1, o.2.2))
 | .remove x => (abd x e).bind fun o => some (o.1, (MV.remove o.2.1, o.2.2))
 | .sleep x => (abW x e).bind fun o => some (o.1, (MV.sleep o.2.1, o.2.2))
 | .wake x => (acg x e).bind fun o => some (o.1, (MV.wake o.2.1, o.2.2))
 | .raise x => (abG x e).bind fun o => some (o.1, (MV.raise o.2.1, o.2.2))
 | .probe x => (aa0 x e).bind fun o => some (o.1, (MV.probe o.2.1, o.2.2))
 | .lpush x => (abF x e).bind fun o => some (o.1, (MV.lpush o.2.1, o.2.2))
 | .lpop x => (abX x e).bind fun o => some (o.1, (MV.lpop o.2.1, o.2.2))
 | .walk x => (abr x e).bind fun o => some (o.1, (MV.walk o.2.1, o.2.2))
 | .take x => (adq x e).bind fun o => some (o.1, (MV.take o.2.1, o.2.2))
 | .sweep x => (aax x e).bind fun o => some (o.1, (MV.sweep o.2.1, o.2.2))
 | .enter x => (abn x e).bind fun o => some (o.1, (MV.enter o.2.1, o.2.2))
 | .drain x => (aa1 x e).bind fun o => some (o.1, (MV.drain o.2.1, o.2.2))
 | .run x => (aa2 x e).bind fun o => some (o.1, (MV.run o.2.1, o.2.2))
 | _ => none
noncomputable abbrev aqo : Con SR1 := ⟨1000000000, [.mch, .ref 27], [.sh .b], fun x => afw x.1 x.2.1⟩
theorem asc : CO Tryz.prog aqo := ahh (S := SR1) (i := 0) (ps := [.ref 27]) (rs := [.sh .b]) (spec := fun m xs => afw m xs.1) fun m xs out h => by
  cases m with
  | alloc x => exact aai (S := SR1) (ps := [.ref 27]) (rs := [.sh .b]) (c := 34) (mk := MV.alloc) (fun _ => rfl) rfl (fun _ _ _ _ => by kernel_rfl) ab8 h
  | publish x => exact aai (S := SR1) (ps := [.ref 27]) (rs := [.sh .b]) (c := 48) (mk := MV.publish) (fun _ => rfl) rfl (fun _ _ _ _ => by kernel_rfl) aci h
  | claim x => exact aai (S := SR1) (ps := [.ref 27]) (rs := [.sh .b]) (c := 43) (mk := MV.claim) (fun _ => rfl) rfl (fun _ _ _ _ => by kernel_rfl) acT h
  | attempt x => exact aai (S := SR1) (ps := [.ref 27]) (rs := [.sh .b]) (c := 33) (mk := MV.attempt) (fun _ => rfl) rfl (fun _ _ _ _ => by kernel_rfl) acD h
  | release x => exact aai (S := SR1) (ps := [.ref 27]) (rs := [.sh .b]) (c := 35) (mk := MV.release) (fun _ => rfl) rfl (fun _ _ _ _ => by kernel_rfl) acC h
  | opush x => exact aai (S := SR1) (ps := [.ref 27]) (rs := [.sh .b]) (c := 51) (mk := MV.opush) (fun _ => rfl) rfl (fun _ _ _ _ => by kernel_rfl) adf h
  | opop x => exact aai (S := SR1) (ps := [.ref 27]) (rs := [.sh .b]) (c := 50) (mk := MV.opop) (fun _ => rfl) rfl (fun _ _ _ _ => by kernel_rfl) adB h
  | steal x => exact aai (S := SR1) (ps := [.ref 27]) (rs := [.sh .b]) (c := 40) (mk := MV.steal) (fun _ => rfl) rfl (fun _ _ _ _ => by kernel_rfl) acS h
  | set x => exact aai (S := SR1) (ps := [.ref 27]) (rs := [.sh .b]) (c := 52) (mk := MV.set) (fun _ => rfl) rfl (fun _ _ _ _ => by kernel_rfl) adh h
  | reset x => exact aai (S := SR1) (ps := [.ref 27]) (rs := [.sh .b]) (c := 41) (mk := MV.reset) (fun _ => rfl) rfl (fun _ _ _ _ => by kernel_rfl) acE h
  | remove x => exact aai (S := SR1) (ps := [.ref 27]) (rs := [.sh .b]) (c := 49) (mk := MV.remove) (fun _ => rfl) rfl (fun _ _ _ _ => by kernel_rfl) abZ h
  | sleep x => exact aai (S := SR1) (ps := [.ref 27]) (rs := [.sh .b]) (c := 31) (mk := MV.sleep) (fun _ => rfl) rfl (fun _ _ _ _ => by kernel_rfl) ade h
  | wake x => exact aai (S := SR1) (ps := [.ref 27]) (rs := [.sh .b]) (c := 36) (mk := MV.wake) (fun _ => rfl) rfl (fun _ _ _ _ => by kernel_rfl) adA h
  | raise x => exact aai (S := SR1) (ps := [.ref 27]) (rs := [.sh .b]) (c := 53) (mk := MV.raise) (fun _ => rfl) rfl (fun _ _ _ _ => by kernel_rfl) acY h
  | probe x => exact aai (S := SR1) (ps := [.ref 27]) (rs := [.sh .b]) (c := 44) (mk := MV.probe) (fun _ => rfl) rfl (fun _ _ _ _ => by kernel_rfl) acV h
  | lpush x => exact aai (S := SR1) (ps := [.ref 27]) (rs := [.sh .b]) (c := 45) (mk := MV.lpush) (fun _ => rfl) rfl (fun _ _ _ _ => by kernel_rfl) adT h
  | lpop x => exact aai (S := SR1) (ps := [.ref 27]) (rs := [.sh .b]) (c := 42) (mk := MV.lpop) (fun _ => rfl) rfl (fun _ _ _ _ => by kernel_rfl) aeo h
  | walk x => exact aai (S := SR1) (ps := [.ref 27]) (rs := [.sh .b]) (c := 46) (mk := MV.walk) (fun _ => rfl) rfl (fun _ _ _ _ => by kernel_rfl) agx h
  | take x => exact aai (S := SR1) (ps := [.ref 27]) (rs := [.sh .b]) (c := 37) (mk := MV.take) (fun _ => rfl) rfl (fun _ _ _ _ => by kernel_rfl) agM h
  | sweep x => exact aai (S := SR1) (ps := [.ref 27]) (rs := [.sh .b]) (c := 38) (mk := MV.sweep) (fun _ => rfl) rfl (fun _ _ _ _ => by kernel_rfl) afU h
  | enter x => exact aai (S := SR1) (ps := [.ref 27]) (rs := [.sh .b]) (c := 47) (mk := MV.enter) (fun _ => rfl) rfl (fun _ _ _ _ => by kernel_rfl) afu h
  | drain x => exact aai (S := SR1) (ps := [.ref 27]) (rs := [.sh .b]) (c := 39) (mk := MV.drain) (fun _ => rfl) rfl (fun _ _ _ _ => by kernel_rfl) afO h
  | run x => exact aai (S := SR1) (ps := [.ref 27]) (rs := [.sh .b]) (c := 32) (mk := MV.run) (fun _ => rfl) rfl (fun _ _ _ _ => by kernel_rfl) aks h
  | _ => cases h
noncomputable def acU (m : MV) : Option ((Int × Int × Unit) × (MV × Unit)) :=
 match m with
 | .alloc x => some ((x.o.code, x.o.value, ()), (MV.alloc x, ()))
 | .publish x => some ((x.o.code, x.o.value, ()), (MV.publish x, ()))
 | .claim x => some ((x.o.code, x.o.value, ()), (MV.claim x, ()))
 | .attempt x => some ((x.o.code, x.o.value, ()), (MV.attempt x, ()))
 | .release x => some ((x.o.code, x.o.value, ()), (MV.release x, ()))
 | .opush x => some ((x.o.code, x.o.value, ()), (MV.opush x, ()))
 | .opop x => some ((x.o.code, x.o.value, ()), (MV.opop x, ()))
 | .steal x => some ((x.o.code, x.o.value, ()), (MV.steal x, ()))
 | .set x => some ((x.o.code, x.o.value, ()), (MV.set x, ()))
 | .reset x => some ((x.o.code, x.o.value, ()), (MV.reset x, ()))
 | .remove x => some ((x.o.code, x.o.value, ()), (MV.remove x, ()))
 | .sleep x => some ((x.o.code, x.o.value, ()), (MV.sleep x, ()))
 | .wake x => some ((x.o.code, x.o.value, ()), (MV.wake x, ()))
 | .raise x => some ((x.o.code, x.o.value, ()), (MV.raise x, ()))
 | .probe x => some ((x.o.code, x.o.value, ()), (MV.probe x, ()))
 | .lpush x => some ((x.o.code, x.o.value, ()), (MV.lpush x, ()))
 | .lpop x => some ((x.o.code, x.o.value, ()), (MV.lpop x, ()))
 | .walk x => some ((x.o.code, x.o.value, ()), (MV.walk x, ()))
 | .take x => some ((x.o.code, x.o.value, ()), (MV.take x, ()))
 | .sweep x => some ((x.o.code, x.o.value, ()), (MV.sweep x, ()))
 | .enter x => some ((x.o.code, x.o.value, ()), (MV.enter x, ()))
 | .drain x => some ((x.o.code, x.o.value, ()), (MV.drain x, ()))
 | .run x => some ((x.o.code, x.o.value, ()), (MV.run x, ()))
 | _ => none
noncomputable abbrev amq : Con SR1 := ⟨1000000001, [.mch], [.sh sI_, .sh sI_], fun x => acU x.1⟩
theorem apy : CO Tryz.prog amq := ahh (S := SR1) (i := 1) (ps := []) (rs := [.sh sI_, .sh sI_]) (spec := fun m _ => acU m) fun m xs out h => by
  cases m with
  | alloc x => exact aai (S := SR1) (ps := []) (rs := [.sh sI_, .sh sI_]) (c := 34) (mk := MV.alloc) (f := 129) (sp := fun x => some ((x.1.o.code, x.1.o.value, ()), (x.1, ()))) (fun _ => rfl) rfl (fun _ _ _ _ => by kernel_rfl) (aam [aah] ⟨aad, trivial⟩ fun x => by kernel_rfl) h
  | publish x => exact aai (S := SR1) (ps := []) (rs := [.sh sI_, .sh sI_]) (c := 48) (mk := MV.publish) (f := 129) (sp := fun x => some ((x.1.o.code, x.1.o.value, ()), (x.1, ()))) (fun _ => rfl) rfl (fun _ _ _ _ => by kernel_rfl) (aam [aah] ⟨aad, trivial⟩ fun x => by kernel_rfl) h
  | claim x => exact aai (S := SR1) (ps := []) (rs := [.sh sI_, .sh sI_]) (c := 43) (mk := MV.claim) (f := 129) (sp := fun x => some ((x.1.o.code, x.1.o.value, ()), (x.1, ()))) (fun _ => rfl) rfl (fun _ _ _ _ => by kernel_rfl) (aam [aah] ⟨aad, trivial⟩ fun x => by kernel_rfl) h
  | attempt x => exact aai (S := SR1) (ps := []) (rs := [.sh sI_, .sh sI_]) (c := 33) (mk := MV.attempt) (f := 129) (sp := fun x => some ((x.1.o.code, x.1.o.value, ()), (x.1, ()))) (fun _ => rfl) rfl (fun _ _ _ _ => by kernel_rfl) (aam [aah] ⟨aad, trivial⟩ fun x => by kernel_rfl) h
  | release x => exact aai (S := SR1) (ps := []) (rs := [.sh sI_, .sh sI_]) (c := 35) (mk := MV.release) (f := 129) (sp := fun x => some ((x.1.o.code, x.1.o.value, ()), (x.1, ()))) (fun _ => rfl) rfl (fun _ _ _ _ => by kernel_rfl) (aam [aah] ⟨aad, trivial⟩ fun x => by kernel_rfl) h
  | opush x => exact aai (S := SR1) (ps := []) (rs := [.sh sI_, .sh sI_]) (c := 51) (mk := MV.opush) (f := 129) (sp := fun x => some ((x.1.o.code, x.1.o.value, ()), (x.1, ()))) (fun _ => rfl) rfl (fun _ _ _ _ => by kernel_rfl) (aam [aah] ⟨aad, trivial⟩ fun x => by kernel_rfl) h
  | opop x => exact aai (S := SR1) (ps := []) (rs := [.sh sI_, .sh sI_]) (c := 50) (mk := MV.opop) (f := 129) (sp := fun x => some ((x.1.o.code, x.1.o.value, ()), (x.1, ()))) (fun _ => rfl) rfl (fun _ _ _ _ => by kernel_rfl) (aam [aah] ⟨aad, trivial⟩ fun x => by kernel_rfl) h
  | steal x => exact aai (S := SR1) (ps := []) (rs := [.sh sI_, .sh sI_]) (c := 40) (mk := MV.steal) (f := 129) (sp := fun x => some ((x.1.o.code, x.1.o.value, ()), (x.1, ()))) (fun _ => rfl) rfl (fun _ _ _ _ => by kernel_rfl) (aam [aah] ⟨aad, trivial⟩ fun x => by kernel_rfl) h
  | set x => exact aai (S := SR1) (ps := []) (rs := [.sh sI_, .sh sI_]) (c := 52) (mk := MV.set) (f := 129) (sp := fun x => some ((x.1.o.code, x.1.o.value, ()), (x.1, ()))) (fun _ => rfl) rfl (fun _ _ _ _ => by kernel_rfl) (aam [aah] ⟨aad, trivial⟩ fun x => by kernel_rfl) h
  | reset x => exact aai (S := SR1) (ps := []) (rs := [.sh sI_, .sh sI_]) (c := 41) (mk := MV.reset) (f := 129) (sp := fun x => some ((x.1.o.code, x.1.o.value, ()), (x.1, ()))) (fun _ => rfl) rfl (fun _ _ _ _ => by kernel_rfl) (aam [aah] ⟨aad, trivial⟩ fun x => by kernel_rfl) h
  | remove x => exact aai (S := SR1) (ps := []) (rs := [.sh sI_, .sh sI_]) (c := 49) (mk := MV.remove) (f := 129) (sp := fun x => some ((x.1.o.code, x.1.o.value, ()), (x.1, ()))) (fun _ => rfl) rfl (fun _ _ _ _ => by kernel_rfl) (aam [aah] ⟨aad, trivial⟩ fun x => by kernel_rfl) h
  | sleep x => exact aai (S := SR1) (ps := []) (rs := [.sh sI_, .sh sI_]) (c := 31) (mk := MV.sleep) (f := 129) (sp := fun x => some ((x.1.o.code, x.1.o.value, ()), (x.1, ()))) (fun _ => rfl) rfl (fun _ _ _ _ => by kernel_rfl) (aam [aah] ⟨aad, trivial⟩ fun x => by kernel_rfl) h
  | wake x => exact aai (S := SR1) (ps := []) (rs := [.sh sI_, .sh sI_]) (c := 36) (mk := MV.wake) (f := 129) (sp := fun x => some ((x.1.o.code, x.1.o.value, ()), (x.1, ()))) (fun _ => rfl) rfl (fun _ _ _ _ => by kernel_rfl) (aam [aah] ⟨aad, trivial⟩ fun x => by kernel_rfl) h
  | raise x => exact aai (S := SR1) (ps := []) (rs := [.sh sI_, .sh sI_]) (c := 53) (mk := MV.raise) (f := 129) (sp := fun x => some ((x.1.o.code, x.1.o.value, ()), (x.1, ()))) (fun _ => rfl) rfl (fun _ _ _ _ => by kernel_rfl) (aam [aah] ⟨aad, trivial⟩ fun x => by kernel_rfl) h
  | probe x => exact aai (S := SR1) (ps := []) (rs := [.sh sI_, .sh sI_]) (c := 44) (mk := MV.probe) (f := 129) (sp := fun x => some ((x.1.o.code, x.1.o.value, ()), (x.1, ()))) (fun _ => rfl) rfl (fun _ _ _ _ => by kernel_rfl) (aam [aah] ⟨aad, trivial⟩ fun x => by kernel_rfl) h
  | lpush x => exact aai (S := SR1) (ps := []) (rs := [.sh sI_, .sh sI_]) (c := 45) (mk := MV.lpush) (f := 129) (sp := fun x => some ((x.1.o.code, x.1.o.value, ()), (x.1, ()))) (fun _ => rfl) rfl (fun _ _ _ _ => by kernel_rfl) (aam [aah] ⟨aad, trivial⟩ fun x => by kernel_rfl) h
  | lpop x => exact aai (S := SR1) (ps := []) (rs := [.sh sI_, .sh sI_]) (c := 42) (mk := MV.lpop) (f := 129) (sp := fun x => some ((x.1.o.code, x.1.o.value, ()), (x.1, ()))) (fun _ => rfl) rfl (fun _ _ _ _ => by kernel_rfl) (aam [aah] ⟨aad, trivial⟩ fun x => by kernel_rfl) h
  | walk x => exact aai (S := SR1) (ps := []) (rs := [.sh sI_, .sh sI_]) (c := 46) (mk := MV.walk) (f := 129) (sp := fun x => some ((x.1.o.code, x.1.o.value, ()), (x.1, ()))) (fun _ => rfl) rfl (fun _ _ _ _ => by kernel_rfl) (aam [aah] ⟨aad, trivial⟩ fun x => by kernel_rfl) h
  | take x => exact aai (S := SR1) (ps := []) (rs := [.sh sI_, .sh sI_]) (c := 37) (mk := MV.take) (f := 129) (sp := fun x => some ((x.1.o.code, x.1.o.value, ()), (x.1, ()))) (fun _ => rfl) rfl (fun _ _ _ _ => by kernel_rfl) (aam [aah] ⟨aad, trivial⟩ fun x => by kernel_rfl) h
  | sweep x => exact aai (S := SR1) (ps := []) (rs := [.sh sI_, .sh sI_]) (c := 38) (mk := MV.sweep) (f := 129) (sp := fun x => some ((x.1.o.code, x.1.o.value, ()), (x.1, ()))) (fun _ => rfl) rfl (fun _ _ _ _ => by kernel_rfl) (aam [aah] ⟨aad, trivial⟩ fun x => by kernel_rfl) h
  | enter x => exact aai (S := SR1) (ps := []) (rs := [.sh sI_, .sh sI_]) (c := 47) (mk := MV.enter) (f := 129) (sp := fun x => some ((x.1.o.code, x.1.o.value, ()), (x.1, ()))) (fun _ => rfl) rfl (fun _ _ _ _ => by kernel_rfl) (aam [aah] ⟨aad, trivial⟩ fun x => by kernel_rfl) h
  | drain x => exact aai (S := SR1) (ps := []) (rs := [.sh sI_, .sh sI_]) (c := 39) (mk := MV.drain) (f := 129) (sp := fun x => some ((x.1.o.code, x.1.o.value, ()), (x.1, ()))) (fun _ => rfl) rfl (fun _ _ _ _ => by kernel_rfl) (aam [aah] ⟨aad, trivial⟩ fun x => by kernel_rfl) h
  | run x => exact aai (S := SR1) (ps := []) (rs := [.sh sI_, .sh sI_]) (c := 32) (mk := MV.run) (f := 129) (sp := fun x => some ((x.1.o.code, x.1.o.value, ()), (x.1, ()))) (fun _ => rfl) rfl (fun _ _ _ _ => by kernel_rfl) (aam [aah] ⟨aad, trivial⟩ fun x => by kernel_rfl) h
  | _ => cases h
noncomputable def adZ (y0 : Int) : Option ((MV × Unit) × (Unit)) :=
 (aeg y0).bind fun r1 =>
 some ((MV.take (⟨⟨false, 0, 0⟩, y0, false, r1.1.1⟩ : (TakeV MV)), ()), (()))
noncomputable abbrev ajo : Con SR1 := ⟨66, [.sh sI_], [.sh .mach], fun x => adZ x.1⟩
theorem ak3 : CO Tryz.prog ajo := aaq aap Tryz.func66 [aie] ⟨ake, trivial⟩ [] trivial (fun _ => []) [] fun x => by kernel_rfl
noncomputable def aaj (y0 : (WorkerV MV)) (y1 : Int) (y2 : MV) : Option ((Unit) × ((WorkerV MV) × Unit)) :=
 some ((()), (({ y0 with line := y1, inside := y2 } : (WorkerV MV)), ()))
noncomputable abbrev abD : Con SR1 := ⟨65, [.ref 30, .sh sI_, .sh .mach], [], fun x => aaj x.1 x.2.1 x.2.2.1⟩
theorem abH : CO Tryz.prog abD := aaq aap Tryz.func65 [] trivial [] trivial (fun _ => []) [] fun x => by kernel_rfl
noncomputable def aj2 (y0 : Int) (y1 : Int) : Option ((MV × Unit) × (Unit)) :=
 some ((MV.sweep (⟨⟨false, 0, 0⟩, y0, y1, 1, 0, MV.nil⟩ : (SweepV MV)), ()), (()))
noncomputable abbrev akl : Con SR1 := ⟨67, [.sh sI_, .sh sI_], [.sh .mach], fun x => aj2 x.1 x.2.1⟩
theorem anY : CO Tryz.prog akl := aaq aap Tryz.func67 [] trivial [] trivial (fun _ => []) [] fun x => by kernel_rfl
noncomputable def acQ (y0 : (WorkerV MV)) (y1 : EnvP) : Option ((Unit) × ((WorkerV MV) × EnvP × Unit)) :=
 if y1.c.age = 0 then
  (adZ y0.worker).bind fun r1 =>
  (aaj y0 2 r1.1.1).bind fun r2 =>
  some ((()), (r2.2.1, y1, ()))
 else
 (aul y0.worker y1.c.tasks).bind fun r3 =>
 if y1.c.tasks = y1.c.tasks then
  if y0.cursor = y0.cursor then
   if y0.worker = y0.worker then
   (aul (wi (r3.1.1 + y0.cursor)) y1.c.tasks).bind fun r4 =>
   if y0.worker = y0.worker then
   (aj2 y0.worker r4.1.1).bind fun r5 =>
   (aaj y0 1 r5.1.1).bind fun r6 =>
   some ((()), (r6.2.1, y1, ()))
   else none
   else none
  else none
 else none
noncomputable abbrev aeL : Con SR1 := ⟨51, [.ref 30, .ref 27], [], fun x => acQ x.1 x.2.1⟩
theorem ahI : CO Tryz.prog aeL := aaq aap Tryz.func51 [ajo, abD, aoC, akl] ⟨ak3, abH, anl, anY, trivial⟩ [] trivial (fun _ => []) [] fun x => by kernel_rfl
noncomputable def aiD (y0 : Int) (y1 : Int) : Option ((MV × Unit) × (Unit)) :=
 some ((MV.run (⟨⟨false, 0, 0⟩, y0, [y1], 0, MV.nil, 0, 0, 0, 0⟩ : (RunV MV)), ()), (()))
noncomputable abbrev ak9 : Con SR1 := ⟨9, [.sh sI_, .sh sI_], [.sh .mach], fun x => aiD x.1 x.2.1⟩
theorem aoi : CO Tryz.prog ak9 := aaq aap Tryz.func9 [] trivial [] trivial (fun _ => []) [] fun x => by kernel_rfl
noncomputable def aca (y0 : (WorkerV MV)) (y1 : Int) : Option ((Unit) × ((WorkerV MV) × Unit)) :=
 (aiD y0.worker y1).bind fun r1 =>
 (aaj ({ y0 with x := y1 } : (WorkerV MV)) 7 r1.1.1).bind fun r2 =>
 some ((()), (r2.2.1, ()))
noncomputable abbrev adN : Con SR1 := ⟨54, [.ref 30, .sh sI_], [], fun x => aca x.1 x.2.1⟩
theorem afc : CO Tryz.prog adN := aaq aap Tryz.func54 [ak9, abD] ⟨aoi, abH, trivial⟩ [] trivial (fun _ => []) [] fun x => by kernel_rfl
noncomputable def ahG (y0 : Int) : Option ((MV × Unit) × (Unit)) :=
 some ((MV.drain (⟨⟨false, 0, 0⟩, y0, 1, MV.nil, 0, false, 0, 0, 0⟩ : (DrainV MV)), ()), (()))
noncomputable abbrev akh : Con SR1 := ⟨69, [.sh sI_], [.sh .mach], fun x => ahG x.1⟩
theorem anI : CO Tryz.prog akh := aaq aap Tryz.func69 [] trivial [] trivial (fun _ => []) [] fun x => by kernel_rfl
noncomputable def abI (y0 : (WorkerV MV)) (y1 : Int) : Option ((Unit) × ((WorkerV MV) × Unit)) :=
 (abJ y0.worker y1).bind fun r1 =>
 (aaj ({ y0 with x := y1 } : (WorkerV MV)) 6 r1.1.1).bind fun r2 =>
 some ((()), (r2.2.1, ()))
noncomputable abbrev adl : Con SR1 := ⟨70, [.ref 30, .sh sI_], [], fun x => abI x.1 x.2.1⟩
theorem aes : CO Tryz.prog adl := aaq aap Tryz.func70 [aed, abD] ⟨aez, abH, trivial⟩ [] trivial (fun _ => []) [] fun x => by kernel_rfl
noncomputable def acs (y0 : Int) : Option ((MV × Unit) × (Unit)) :=
 some ((MV.sleep (⟨⟨false, 0, 0⟩, y0, 1, 0, 0, 0⟩ : SleepV), ()), (()))
noncomputable abbrev aic : Con SR1 := ⟨72, [.sh sI_], [.sh .mach], fun x => acs x.1⟩
theorem akb : CO Tryz.prog aic := aaq aap Tryz.func72 [] trivial [] trivial (fun _ => []) [] fun x => by kernel_rfl
noncomputable def ajH (y0 : Int) : Option ((MV × Unit) × (Unit)) :=
 some ((MV.probe (⟨⟨false, 0, 0⟩, y0, false, 0, 0, ⟨0, 0, 0, 0, 0, 0, 0, 0, 0, 0, 0, 0, 0, 0, 0, 0⟩⟩ : ProbeV), ()), (()))
noncomputable abbrev aka : Con SR1 := ⟨84, [.sh sI_], [.sh .mach], fun x => ajH x.1⟩
theorem anh : CO Tryz.prog aka := aaq aap Tryz.func84 [] trivial [] trivial (fun _ => []) [] fun x => by kernel_rfl
noncomputable def aaU (y0 : (WorkerV MV)) (y1 : EnvP) : Option ((Unit) × ((WorkerV MV) × EnvP × Unit)) :=
 if y1.c.workers = 1 then
  (acs y0.worker).bind fun r1 =>
  (aaj y0 8 r1.1.1).bind fun r2 =>
  some ((()), (r2.2.1, y1, ()))
 else
 (ajH y0.worker).bind fun r3 =>
 (aaj y0 4 r3.1.1).bind fun r4 =>
 some ((()), (r4.2.1, y1, ()))
noncomputable abbrev afd : Con SR1 := ⟨71, [.ref 30, .ref 27], [], fun x => aaU x.1 x.2.1⟩
theorem ah4 : CO Tryz.prog afd := aaq aap Tryz.func71 [aic, abD, aka] ⟨akb, abH, anh, trivial⟩ [] trivial (fun _ => []) [] fun x => by kernel_rfl
noncomputable def acw (y0 : QV) : Option ((MV × Unit) × (Unit)) :=
 some ((MV.steal (⟨⟨false, 0, 0⟩, y0, 1, 0, 0⟩ : StealV), ()), (()))
noncomputable abbrev aj7 : Con SR1 := ⟨73, [.val 14], [.sh .mach], fun x => acw x.1⟩
theorem amZ : CO Tryz.prog aj7 := aaq aap Tryz.func73 [] trivial [] trivial (fun _ => []) [] fun x => by kernel_rfl
noncomputable def abl (y0 : (WorkerV MV)) (y1 : EnvP) (y2 : Int) (y3 : Int) : Option ((Unit) × ((WorkerV MV) × EnvP × Unit)) :=
 if y0.line = 1 then
  (adZ y0.worker).bind fun r1 =>
  (aaj ({ y0 with cursor := wi (y0.cursor + 1) } : (WorkerV MV)) 2 r1.1.1).bind fun r2 =>
  some ((()), (r2.2.1, y1, ()))
 else
 if y0.line = 2 then
  if y2 = 1 then
   (aca y0 y3).bind fun r3 =>
   some ((()), (r3.2.1, y1, ()))
  else
  if y0.line = 2 then
   (ahG y0.worker).bind fun r4 =>
   (aaj y0 3 r4.1.1).bind fun r5 =>
   some ((()), (r5.2.1, y1, ()))
  else
  if y0.line = 3 then
   if y2 = 1 then
   (abI y0 y3).bind fun r6 =>
   some ((()), (r6.2.1, y1, ()))
   else
   if y0.line = 3 then
   if y2 = 0 then
   (adZ y0.worker).bind fun r7 =>
   (aaj y0 2 r7.1.1).bind fun r8 =>
   some ((()), (r8.2.1, y1, ()))
   else
   if y0.line = 3 then
   (aaU y0 y1).bind fun r9 =>
   some ((()), (r9.2.1, r9.2.2.1, ()))
   else
   if y2 = 2 then
   (acs y0.worker).bind fun r10 =>
   (aaj y0 8 r10.1.1).bind fun r11 =>
   some ((()), (r11.2.1, y1, ()))
   else
   (aeW y1.l (wi (Int.tdiv y3 64)) (Int.tmod y3 64)).bind fun r12 =>
   (acw r12.1.1).bind fun r13 =>
   (aaj ({ y0 with victim := wi (Int.tdiv y3 64), level := (Int.tmod y3 64) } : (WorkerV MV)) 5 r13.1.1).bind fun r14 =>
   some ((()), (r14.2.1, y1, ()))
   else
   if y0.line = 3 then
   (aaU y0 y1).bind fun r15 =>
   some ((()), (r15.2.1, r15.2.2.1, ()))
   else
   if y2 = 2 then
   (acs y0.worker).bind fun r16 =>
   (aaj y0 8 r16.1.1).bind fun r17 =>
   some ((()), (r17.2.1, y1, ()))
   else
   (aeW y1.l (wi (Int.tdiv y3 64)) (Int.tmod y3 64)).bind fun r18 =>
   (acw r18.1.1).bind fun r19 =>
   (aaj ({ y0 with victim := wi (Int.tdiv y3 64), level := (Int.tmod y3 64) } : (WorkerV MV)) 5 r19.1.1).bind fun r20 =>
   some ((()), (r20.2.1, y1, ()))
  else
  if y0.line = 3 then
   if y2 = 0 then
   (adZ y0.worker).bind fun r21 =>
   (aaj y0 2 r21.1.1).bind fun r22 =>
   some ((()), (r22.2.1, y1, ()))
   else
   if y0.line = 3 then
   (aaU y0 y1).bind fun r23 =>
   some ((()), (r23.2.1, r23.2.2.1, ()))
   else
   if y2 = 2 then
   (acs y0.worker).bind fun r24 =>
   (aaj y0 8 r24.1.1).bind fun r25 =>
   some ((()), (r25.2.1, y1, ()))
   else
   (aeW y1.l (wi (Int.tdiv y3 64)) (Int.tmod y3 64)).bind fun r26 =>
   (acw r26.1.1).bind fun r27 =>
   (aaj ({ y0 with victim := wi (Int.tdiv y3 64), level := (Int.tmod y3 64) } : (WorkerV MV)) 5 r27.1.1).bind fun r28 =>
   some ((()), (r28.2.1, y1, ()))
  else
  if y0.line = 3 then
   (aaU y0 y1).bind fun r29 =>
   some ((()), (r29.2.1, r29.2.2.1, ()))
  else
  if y2 = 2 then
   (acs y0.worker).bind fun r30 =>
   (aaj y0 8 r30.1.1).bind fun r31 =>
   some ((()), (r31.2.1, y1, ()))
  else
  (aeW y1.l (wi (Int.tdiv y3 64)) (Int.tmod y3 64)).bind fun r32 =>
  (acw r32.1.1).bind fun r33 =>
  (aaj ({ y0 with victim := wi (Int.tdiv y3 64), level := (Int.tmod y3 64) } : (WorkerV MV)) 5 r33.1.1).bind fun r34 =>
  some ((()), (r34.2.1, y1, ()))
 else
 if y0.line = 2 then
  (ahG y0.worker).bind fun r35 =>
  (aaj y0 3 r35.1.1).bind fun r36 =>
  some ((()), (r36.2.1, y1, ()))
 else
 if y0.line = 3 then
  if y2 = 1 then
   (abI y0 y3).bind fun r37 =>
   some ((()), (r37.2.1, y1, ()))
  else
  if y0.line = 3 then
   if y2 = 0 then
   (adZ y0.worker).bind fun r38 =>
   (aaj y0 2 r38.1.1).bind fun r39 =>
   some ((()), (r39.2.1, y1, ()))
   else
   if y0.line = 3 then
   (aaU y0 y1).bind fun r40 =>
   some ((()), (r40.2.1, r40.2.2.1, ()))
   else
   if y2 = 2 then
   (acs y0.worker).bind fun r41 =>
   (aaj y0 8 r41.1.1).bind fun r42 =>
   some ((()), (r42.2.1, y1, ()))
   else
   (aeW y1.l (wi (Int.tdiv y3 64)) (Int.tmod y3 64)).bind fun r43 =>
   (acw r43.1.1).bind fun r44 =>
   (aaj ({ y0 with victim := wi (Int.tdiv y3 64), level := (Int.tmod y3 64) } : (WorkerV MV)) 5 r44.1.1).bind fun r45 =>
   some ((()), (r45.2.1, y1, ()))
  else
  if y0.line = 3 then
   (aaU y0 y1).bind fun r46 =>
   some ((()), (r46.2.1, r46.2.2.1, ()))
  else
  if y2 = 2 then
   (acs y0.worker).bind fun r47 =>
   (aaj y0 8 r47.1.1).bind fun r48 =>
   some ((()), (r48.2.1, y1, ()))
  else
  (aeW y1.l (wi (Int.tdiv y3 64)) (Int.tmod y3 64)).bind fun r49 =>
  (acw r49.1.1).bind fun r50 =>
  (aaj ({ y0 with victim := wi (Int.tdiv y3 64), level := (Int.tmod y3 64) } : (WorkerV MV)) 5 r50.1.1).bind fun r51 =>
  some ((()), (r51.2.1, y1, ()))
 else
 if y0.line = 3 then
  if y2 = 0 then
   (adZ y0.worker).bind fun r52 =>
   (aaj y0 2 r52.1.1).bind fun r53 =>
   some ((()), (r53.2.1, y1, ()))
  else
  if y0.line = 3 then
   (aaU y0 y1).bind fun r54 =>
   some ((()), (r54.2.1, r54.2.2.1, ()))
  else
  if y2 = 2 then
   (acs y0.worker).bind fun r55 =>
   (aaj y0 8 r55.1.1).bind fun r56 =>
   some ((()), (r56.2.1, y1, ()))
  else
  (aeW y1.l (wi (Int.tdiv y3 64)) (Int.tmod y3 64)).bind fun r57 =>
  (acw r57.1.1).bind fun r58 =>
  (aaj ({ y0 with victim := wi (Int.tdiv y3 64), level := (Int.tmod y3 64) } : (WorkerV MV)) 5 r58.1.1).bind fun r59 =>
  some ((()), (r59.2.1, y1, ()))
 else
 if y0.line = 3 then
  (aaU y0 y1).bind fun r60 =>
  some ((()), (r60.2.1, r60.2.2.1, ()))
 else
 if y2 = 2 then
  (acs y0.worker).bind fun r61 =>
  (aaj y0 8 r61.1.1).bind fun r62 =>
  some ((()), (r62.2.1, y1, ()))
 else
 (aeW y1.l (wi (Int.tdiv y3 64)) (Int.tmod y3 64)).bind fun r63 =>
 (acw r63.1.1).bind fun r64 =>
 (aaj ({ y0 with victim := wi (Int.tdiv y3 64), level := (Int.tmod y3 64) } : (WorkerV MV)) 5 r64.1.1).bind fun r65 =>
 some ((()), (r65.2.1, y1, ()))
noncomputable abbrev aeO : Con SR1 := ⟨52, [.ref 30, .ref 27, .sh sI_, .sh sI_], [], fun x => abl x.1 x.2.1 x.2.2.1 x.2.2.2.1⟩
theorem ahK : CO Tryz.prog aeO := aaq aap Tryz.func52 [ajo, abD, adN, akh, adl, afd, aic, ahy, aj7] ⟨ak3, abH, afc, anI, aes, ah4, akb, ag3, amZ, trivial⟩ [] trivial (fun _ => []) [] fun x => by kernel_rfl
noncomputable def aaL (y0 : (WorkerV MV)) : Option ((Unit) × ((WorkerV MV) × Unit)) :=
 some ((()), (({ y0 with line := 0, inside := MV.nil } : (WorkerV MV)), ()))
noncomputable abbrev ady : Con SR1 := ⟨55, [.ref 30], [], fun x => aaL x.1⟩
theorem aeN : CO Tryz.prog ady := aaq aap Tryz.func55 [] trivial [] trivial (fun _ => []) [] fun x => by kernel_rfl
noncomputable def acA (y0 : (WorkerV MV)) (y1 : EnvP) (y2 : Int) (y3 : Int) : Option ((Unit) × ((WorkerV MV) × EnvP × Unit)) :=
 if y2 = 1 then
  (adu y1 ({ y0 with kind := 14, task := y3, other := y0.victim } : Ev)).bind fun r1 =>
  (abI y0 y3).bind fun r2 =>
  some ((()), (r2.2.1, r1.2.1, ()))
 else
 if y2 = 2 then
  (afn y1.l y0.victim).bind fun r3 =>
  if y0.level = y0.level then
   if y0.victim = y0.victim then
   if y1.l.workers = y1.l.workers then
   if y1.l.levels = y1.l.levels then
   if y1.l.classes = y1.l.classes then
   if y1.l.tasks = y1.l.tasks then
   if y1.l.deque = y1.l.deque then
   if y1.l.heap = y1.l.heap then
   if y1.l.sleepers = y1.l.sleepers then
   if y1.l.epochs = y1.l.epochs then
   if y1.l.bitmaps = y1.l.bitmaps then
   if y1.l.queues = y1.l.queues then
   if y1.l.table = y1.l.table then
   if y0.level = y0.level then
   (aeW y1.l y0.victim y0.level).bind fun r4 =>
   if y0.level = y0.level then
   (ae8 r3.1.1 y0.level r4.1.1).bind fun r5 =>
   (aaj y0 9 r5.1.1).bind fun r6 =>
   some ((()), (r6.2.1, y1, ()))
   else none
   else none
   else none
   else none
   else none
   else none
   else none
   else none
   else none
   else none
   else none
   else none
   else none
   else none
  else none
 else
 (aaL y0).bind fun r7 =>
 some ((()), (r7.2.1, y1, ()))
noncomputable abbrev aer : Con SR1 := ⟨53, [.ref 30, .ref 27, .sh sI_, .sh sI_], [], fun x => acA x.1 x.2.1 x.2.2.1 x.2.2.2.1⟩
theorem agK : CO Tryz.prog aer := aaq aap Tryz.func53 [ae0, adl, ae1, ahy, agn, abD, ady] ⟨ad6, aes, aeF, ag3, ah2, abH, aeN, trivial⟩ [] trivial (fun _ => []) [] fun x => by kernel_rfl
noncomputable def aat (y0 : (WorkerV MV)) (y1 : EnvP) : Option ((Bool × Unit) × ((WorkerV MV) × EnvP × Unit)) :=
 if y0.line = 0 then
  (acQ y0 y1).bind fun r1 =>
  (afw r1.2.1.inside r1.2.2.1).bind fun r2 =>
  if (!r2.1.1) = true then
   some ((false, ()), (({ r1.2.1 with inside := r2.2.1 } : (WorkerV MV)), r2.2.2.1, ()))
  else
  (acU r2.2.1).bind fun r3 =>
  if r1.2.1.line ≤ 4 then
   (abl ({ r1.2.1 with inside := r3.2.1 } : (WorkerV MV)) r2.2.2.1 r3.1.1 r3.1.2.1).bind fun r4 =>
   some ((false, ()), (r4.2.1, r4.2.2.1, ()))
  else
  if r1.2.1.line = 5 then
   (acA ({ r1.2.1 with inside := r3.2.1 } : (WorkerV MV)) r2.2.2.1 r3.1.1 r3.1.2.1).bind fun r5 =>
   some ((false, ()), (r5.2.1, r5.2.2.1, ()))
  else
  if r1.2.1.line = 6 then
   if r3.1.1 = 1 then
   (aca ({ r1.2.1 with inside := r3.2.1 } : (WorkerV MV)) r1.2.1.x).bind fun r6 =>
   some ((false, ()), (r6.2.1, r2.2.2.1, ()))
   else
   (aaL ({ r1.2.1 with inside := r3.2.1 } : (WorkerV MV))).bind fun r7 =>
   some ((false, ()), (r7.2.1, r2.2.2.1, ()))
  else
  (aaL ({ r1.2.1 with inside := r3.2.1 } : (WorkerV MV))).bind fun r8 =>
  some ((false, ()), (r8.2.1, r2.2.2.1, ()))
 else
 (afw y0.inside y1).bind fun r9 =>
 if (!r9.1.1) = true then
  some ((false, ()), (({ y0 with inside := r9.2.1 } : (WorkerV MV)), r9.2.2.1, ()))
 else
 (acU r9.2.1).bind fun r10 =>
 if y0.line ≤ 4 then
  (abl ({ y0 with inside := r10.2.1 } : (WorkerV MV)) r9.2.2.1 r10.1.1 r10.1.2.1).bind fun r11 =>
  some ((false, ()), (r11.2.1, r11.2.2.1, ()))
 else
 if y0.line = 5 then
  (acA ({ y0 with inside := r10.2.1 } : (WorkerV MV)) r9.2.2.1 r10.1.1 r10.1.2.1).bind fun r12 =>
  some ((false, ()), (r12.2.1, r12.2.2.1, ()))
 else
 if y0.line = 6 then
  if r10.1.1 = 1 then
   (aca ({ y0 with inside := r10.2.1 } : (WorkerV MV)) y0.x).bind fun r13 =>
   some ((false, ()), (r13.2.1, r9.2.2.1, ()))
  else
  (aaL ({ y0 with inside := r10.2.1 } : (WorkerV MV))).bind fun r14 =>
  some ((false, ()), (r14.2.1, r9.2.2.1, ()))
 else
 (aaL ({ y0 with inside := r10.2.1 } : (WorkerV MV))).bind fun r15 =>
 some ((false, ()), (r15.2.1, r9.2.2.1, ()))
noncomputable abbrev adx : Con SR1 := ⟨31, [.ref 30, .ref 27], [.sh .b], fun x => aat x.1 x.2.1⟩
theorem aeK : CO Tryz.prog adx := aaq aap Tryz.func31 [aeL, aqo, amq, aeO, aer, adN, ady] ⟨ahI, asc, apy, ahK, agK, afc, aeN, trivial⟩ [] trivial (fun _ => []) [] fun x => by kernel_rfl
noncomputable def ae5 (y0 : Cfg) : Option ((Cfg × Unit) × (Unit)) :=
 (afR y0.progs).bind fun r1 =>
 (lpF (σ := Int × (Int × Int × Int × Int × Int × Int × Int × Int × Int × List (List Ins) × List Sub × Unit) × Unit) (β := Int × (Int × Int × Int × Int × Int × Int × Int × Int × Int × List (List Ins) × List Sub × Unit) × Unit) (fun self4 x2 =>
  if x2.1 < ((r1.1.1.length : Nat) : Int) then
   if 0 ≤ x2.1 ∧ x2.1 < ((x2.2.1.2.2.2.2.2.2.2.2.2.1.length : Nat) : Int) then
   (ahH (at2 x2.2.1.2.2.2.2.2.2.2.2.2.1 x2.1)).bind fun r5 =>
   if 0 ≤ x2.1 ∧ x2.1 < ((x2.2.1.2.2.2.2.2.2.2.2.2.1.length : Nat) : Int) then
   self4 (wi (x2.1 + 1), (x2.2.1.1, x2.2.1.2.1, x2.2.1.2.2.1, x2.2.1.2.2.2.1, x2.2.1.2.2.2.2.1, x2.2.1.2.2.2.2.2.1, x2.2.1.2.2.2.2.2.2.1, x2.2.1.2.2.2.2.2.2.2.1, x2.2.1.2.2.2.2.2.2.2.2.1, x2.2.1.2.2.2.2.2.2.2.2.2.1.set x2.1.toNat r5.1.1, x2.2.1.2.2.2.2.2.2.2.2.2.2.1, ()), ())
   else none
   else none
  else
  some (x2.1, (x2.2.1.1, x2.2.1.2.1, x2.2.1.2.2.1, x2.2.1.2.2.2.1, x2.2.1.2.2.2.2.1, x2.2.1.2.2.2.2.2.1, x2.2.1.2.2.2.2.2.2.1, x2.2.1.2.2.2.2.2.2.2.1, x2.2.1.2.2.2.2.2.2.2.2.1, x2.2.1.2.2.2.2.2.2.2.2.2.1, x2.2.1.2.2.2.2.2.2.2.2.2.2.1, ()), ())
 ) 18446744073709551616 (0, (y0.workers, y0.levels, y0.classes, y0.tasks, y0.deque, y0.heap, y0.batch, y0.age, y0.patience, r1.1.1, y0.subs, ()), ())).bind fun z3 =>
 (afQ z3.2.1.2.2.2.2.2.2.2.2.2.2.1).bind fun r6 =>
 some (((⟨z3.2.1.1, z3.2.1.2.1, z3.2.1.2.2.1, z3.2.1.2.2.2.1, z3.2.1.2.2.2.2.1, z3.2.1.2.2.2.2.2.1, z3.2.1.2.2.2.2.2.2.1, z3.2.1.2.2.2.2.2.2.2.1, z3.2.1.2.2.2.2.2.2.2.2.1, z3.2.1.2.2.2.2.2.2.2.2.2.1, r6.1.1⟩ : Cfg), ()), (()))
noncomputable abbrev ajc : Con SR1 := ⟨44, [.val 13], [.val 13], fun x => ae5 x.1⟩
theorem amj : CO Tryz.prog ajc := aaq aap Tryz.func44 [agk, amK, alT] ⟨ao1, ap6, ao0, trivial⟩ [] trivial (fun _ => []) [(3, .loop [.rg 11 sI_, .cs 11 [sI_, sI_, sI_, sI_, sI_, sI_, sI_, sI_, sI_, (.row 18), (.ro 4)]] 18446744073709551616 0)] fun x => by kernel_rfl
noncomputable def ai9 (y0 : Cfg) : Option ((LayV × Int × Unit) × (Unit)) :=
 (anP y0).bind fun r1 =>
 if r1.1.1 ≠ 0 then
  some (((⟨0, 0, 0, 0, 0, 0, 0, 0, 0, 0, 0⟩ : LayV), r1.1.1, ()), (()))
 else
 some ((({ y0 with sleepers := wi (4 + y0.heap), epochs := wi ((wi (4 + y0.heap)) + y0.classes), bitmaps := wi ((wi ((wi (4 + y0.heap)) + y0.classes)) + y0.workers), queues := wi ((wi ((wi ((wi (4 + y0.heap)) + y0.classes)) + y0.workers)) + y0.workers), table := wi ((wi ((wi ((wi ((wi (4 + y0.heap)) + y0.classes)) + y0.workers)) + y0.workers)) + (wi ((wi (y0.workers * y0.levels)) * (wi (2 + y0.deque))))) } : LayV), 0, ()), (()))
noncomputable abbrev alB : Con SR1 := ⟨41, [.val 13], [.val 24, .sh sI_], fun x => ai9 x.1⟩
theorem aoQ : CO Tryz.prog alB := aaq aap Tryz.func41 [amM] ⟨aqa, trivial⟩ [] trivial (fun _ => []) [] fun x => by kernel_rfl
noncomputable def alw (y0 : Int) : Option ((MemV × Unit) × (Unit)) :=
 if (if 131072 < (if y0 < 0 then 0 else y0) then 131072 else (if y0 < 0 then 0 else y0)) = (if 131072 < (if y0 < 0 then 0 else y0) then 131072 else (if y0 < 0 then 0 else y0)) then
  if 0 ≤ (if 131072 < (if y0 < 0 then 0 else y0) then 131072 else (if y0 < 0 then 0 else y0)) ∧ (if 131072 < (if y0 < 0 then 0 else y0) then 131072 else (if y0 < 0 then 0 else y0)) ≤ 1099511627776 then
   some (((⟨List.replicate ((if 131072 < (if y0 < 0 then 0 else y0) then 131072 else (if y0 < 0 then 0 else y0)) : Int).toNat (0 : Int), ⟨0, 0, 0, 0⟩, 0⟩ : MemV), ()), (()))
  else none
 else none
noncomputable abbrev alv : Con SR1 := ⟨60, [.sh sI_], [.sh (.own 9)], fun x => alw x.1⟩
theorem aoN : CO Tryz.prog alv := aaq aap Tryz.func60 [] trivial [] trivial (fun _ => []) [] fun x => by kernel_rfl
noncomputable def anO  : Option ((ClkV × Unit) × (Unit)) :=
 some (((⟨0, 0⟩ : ClkV), ()), (()))
noncomputable abbrev amL : Con SR1 := ⟨61, [], [.sh (.own 25)], fun x => anO ⟩
theorem ap7 : CO Tryz.prog amL := aaq aap Tryz.func61 [] trivial [] trivial (fun _ => []) [] fun x => by kernel_rfl
noncomputable def af7 (y0 : Int) : Option ((EnvP × Unit) × (Unit)) :=
 (alw y0).bind fun r1 =>
 (anO).bind fun r2 =>
 some (((⟨⟨0, 0, 0, 0, 0, 0, 0, 0, 0, [], []⟩, ⟨0, 0, 0, 0, 0, 0, 0, 0, 0, 0, 0⟩, r1.1.1, r2.1.1, [], []⟩ : EnvP), ()), (()))
noncomputable abbrev ai2 : Con SR1 := ⟨42, [.sh sI_], [.sh (.own 27)], fun x => af7 x.1⟩
theorem amg : CO Tryz.prog ai2 := aaq aap Tryz.func42 [alv, amL] ⟨aoN, ap7, trivial⟩ [] trivial (fun _ => []) [] fun x => by kernel_rfl
noncomputable def akZ (y0 : Int) : Option (((WorkerV MV) × Unit) × (Unit)) :=
 some (((⟨y0, 0, 0, MV.nil, 0, 0, 0⟩ : (WorkerV MV)), ()), (()))
noncomputable abbrev ah5 : Con SR1 := ⟨22, [.sh sI_], [.sh (.own 30)], fun x => akZ x.1⟩
theorem aj5 : CO Tryz.prog ah5 := aaq aap Tryz.func22 [] trivial [] trivial (fun _ => []) [] fun x => by kernel_rfl
noncomputable def aaI (y0 : (WorkerV MV)) : Option ((Int × Unit) × ((WorkerV MV) × Unit)) :=
 if y0.line = 0 then
  some ((0, ()), (y0, ()))
 else
 if y0.line = 7 then
  some ((2, ()), (y0, ()))
 else
 if y0.line = 8 then
  (amw y0.inside).bind fun r1 =>
  if r1.1.1 = true then
   some ((3, ()), (({ y0 with inside := r1.2.1 } : (WorkerV MV)), ()))
  else
  some ((1, ()), (({ y0 with inside := r1.2.1 } : (WorkerV MV)), ()))
 else
 some ((1, ()), (y0, ()))
noncomputable abbrev ac2 : Con SR1 := ⟨29, [.ref 30], [.sh sI_], fun x => aaI x.1⟩
theorem aeb : CO Tryz.prog ac2 := aaq aap Tryz.func29 [ag1] ⟨anj, trivial⟩ [] trivial (fun _ => []) [] fun x => by kernel_rfl
noncomputable def abo (r : CodV) (k : Int) : Option ((Int × Unit) × (CodV × Unit)) :=
 if r.at_ < ((r.inn.length : Nat) : Int) then
  if 0 ≤ r.at_ ∧ r.at_ < ((r.inn.length : Nat) : Int) then
   if k ≠ 0 then
   some (((Int.tmod (wi (ahQ r.inn r.at_)) k), ()), (({ r with at_ := wi (r.at_ + 1) } : CodV), ()))
   else none
  else none
 else
 some ((0, ()), (({ r with at_ := wi (r.at_ + 1) } : CodV), ()))
noncomputable abbrev amr : Con SR1 := ⟨58, [.ref 19, .sh sI_], [.sh sI_], fun x => abo x.1 x.2.1⟩
theorem apB : CO Tryz.prog amr := aaq aap Tryz.func58 [] trivial [] trivial (fun _ => []) [] fun x => by kernel_rfl
noncomputable def aqG (b : List Int) : Option ((Cfg × Unit) × (Unit)) :=
 (abo (⟨b, [], 0, false⟩ : CodV) 4).bind fun r1 =>
 (abo r1.2.1 4).bind fun r2 =>
 (abo r2.2.1 (if wi (1 + r2.1.1) < 3 then wi (1 + r2.1.1) else 3)).bind fun r3 =>
 (abo r3.2.1 12).bind fun r4 =>
 (abo r4.2.1 4).bind fun r5 =>
 (abo r5.2.1 4).bind fun r6 =>
 (abo r6.2.1 (wi (1 + r5.1.1))).bind fun r7 =>
 (abo r7.2.1 6).bind fun r8 =>
 (abo r8.2.1 8).bind fun r9 =>
 (abo r9.2.1 4).bind fun r10 =>
 (lpF (σ := Int × CodV × Cfg × Unit) (β := Int × CodV × Cfg × Unit) (fun self13 x11 =>
  if x11.1 < (wi (1 + r10.1.1)) then
   (abo x11.2.1 6).bind fun r14 =>
   (lpF (σ := List Ins × Int × CodV × Unit) (β := List Ins × Int × CodV × Unit) (fun self17 x15 =>
   if 0 < x15.2.1 then
   (abo x15.2.2.1 3).bind fun r18 =>
   if r18.1.1 = 0 then
   (abo r18.2.1 4).bind fun r19 =>
   if (((x15.1.length + ([(⟨r18.1.1, wi (1 + r19.1.1), 0⟩ : Ins)] : List Ins).length : Nat)) : Int) < 1000000000000 then
   self17 (x15.1 ++ ([(⟨r18.1.1, wi (1 + r19.1.1), 0⟩ : Ins)]), wi (x15.2.1 - 1), r19.2.1, ())
   else none
   else
   if r18.1.1 = 1 then
   (abo r18.2.1 (wi (1 + r10.1.1))).bind fun r20 =>
   (abo r20.2.1 x11.2.2.1.levels).bind fun r21 =>
   if (((x15.1.length + ([(⟨r18.1.1, r20.1.1, r21.1.1⟩ : Ins)] : List Ins).length : Nat)) : Int) < 1000000000000 then
   self17 (x15.1 ++ ([(⟨r18.1.1, r20.1.1, r21.1.1⟩ : Ins)]), wi (x15.2.1 - 1), r21.2.1, ())
   else none
   else
   (abo r18.2.1 4).bind fun r22 =>
   if (((x15.1.length + ([(⟨r18.1.1, r22.1.1, 0⟩ : Ins)] : List Ins).length : Nat)) : Int) < 1000000000000 then
   self17 (x15.1 ++ ([(⟨r18.1.1, r22.1.1, 0⟩ : Ins)]), wi (x15.2.1 - 1), r22.2.1, ())
   else none
   else
   some (x15.1, x15.2.1, x15.2.2.1, ())
   ) 18446744073709551616 ([], r14.1.1, r14.2.1, ())).bind fun z16 =>
   if (((x11.2.2.1.progs.length + ([z16.1] : List (List Ins)).length : Nat)) : Int) < 100000000000 then
   self13 (wi (x11.1 + 1), z16.2.2.1, ({ x11.2.2.1 with progs := x11.2.2.1.progs ++ ([z16.1]) } : Cfg), ())
   else none
  else
  some (x11.1, x11.2.1, x11.2.2.1, ())
 ) 18446744073709551616 (0, r10.2.1, (⟨wi (1 + r1.1.1), wi (1 + r2.1.1), wi (1 + r3.1.1), wi (1 + r4.1.1), wi (1 + r5.1.1), wi (1 + r6.1.1), wi (1 + r7.1.1), r8.1.1, wi (1 + r9.1.1), [], []⟩ : Cfg), ())).bind fun z12 =>
 (abo z12.2.1 6).bind fun r23 =>
 (lpF (σ := Int × CodV × Cfg × Unit) (β := Int × CodV × Cfg × Unit) (fun self26 x24 =>
  if 0 < x24.1 then
   (abo x24.2.1 (wi (1 + r10.1.1))).bind fun r27 =>
   (abo r27.2.1 x24.2.2.1.levels).bind fun r28 =>
   (abo r28.2.1 16).bind fun r29 =>
   if (((x24.2.2.1.subs.length + ([(⟨r27.1.1, r28.1.1, r29.1.1⟩ : Sub)] : List Sub).length : Nat)) : Int) < 1000000000000 then
   self26 (wi (x24.1 - 1), r29.2.1, ({ x24.2.2.1 with subs := x24.2.2.1.subs ++ ([(⟨r27.1.1, r28.1.1, r29.1.1⟩ : Sub)]) } : Cfg), ())
   else none
  else
  some (x24.1, x24.2.1, x24.2.2.1, ())
 ) 18446744073709551616 (r23.1.1, r23.2.1, z12.2.2.1, ())).bind fun z25 =>
 some ((z25.2.2.1, ()), (()))
noncomputable abbrev ams : Con SR1 := ⟨40, [.sh (.ro 17)], [.val 13], fun x => aqG x.1⟩
theorem apC : CO Tryz.prog ams := aaq aap Tryz.func40 [amr] ⟨apB, trivial⟩ [] trivial (fun _ => []) [(12, .loop [.rg 6 sI_, .rg 3 (.own 19), .rg 4 (.own 20)] 18446744073709551616 0), (16, .loop [.rg 7 (.row 3), .rg 8 sI_, .rg 3 (.own 19)] 18446744073709551616 2), (29, .loop [.rg 10 sI_, .rg 3 (.own 19), .rg 4 (.own 20)] 18446744073709551616 5)] fun x => by kernel_rfl
noncomputable def anw (b : List Int) : Option ((Cfg × Unit) × (Unit)) :=
 (aqG b).bind fun r1 =>
 some ((r1.1.1, ()), (()))
noncomputable abbrev alD : Con SR1 := ⟨20, [.sh (.ro 17)], [.val 13], fun x => anw x.1⟩
theorem amE : CO Tryz.prog alD := aaq aap Tryz.func20 [ams] ⟨apC, trivial⟩ [] trivial (fun _ => []) [] fun x => by kernel_rfl
noncomputable def adS (y0 : Cfg) : Option ((EnvP × Int × Unit) × (Unit)) :=
 (ai9 y0).bind fun r1 =>
 if r1.1.2.1 ≠ 0 then
  none
 else
 (aqU r1.1.1).bind fun r2 =>
 (af7 r2.1.1).bind fun r3 =>
 (ae5 y0).bind fun r4 =>
 if r1.1.1.workers = r1.1.1.workers then
  if r1.1.1.levels = r1.1.1.levels then
   if r1.1.1.classes = r1.1.1.classes then
   if r1.1.1.tasks = r1.1.1.tasks then
   if r1.1.1.deque = r1.1.1.deque then
   if r1.1.1.heap = r1.1.1.heap then
   if r1.1.1.sleepers = r1.1.1.sleepers then
   if r1.1.1.epochs = r1.1.1.epochs then
   if r1.1.1.bitmaps = r1.1.1.bitmaps then
   if r1.1.1.queues = r1.1.1.queues then
   if r1.1.1.table = r1.1.1.table then
   if r1.1.1.workers = r1.1.1.workers then
   if r1.1.1.levels = r1.1.1.levels then
   if r1.1.1.classes = r1.1.1.classes then
   if r1.1.1.tasks = r1.1.1.tasks then
   if r1.1.1.deque = r1.1.1.deque then
   if r1.1.1.heap = r1.1.1.heap then
   if r1.1.1.sleepers = r1.1.1.sleepers then
   if r1.1.1.epochs = r1.1.1.epochs then
   if r1.1.1.bitmaps = r1.1.1.bitmaps then
   if r1.1.1.queues = r1.1.1.queues then
   if r1.1.1.table = r1.1.1.table then
   (lpF (σ := Int × EnvP × Unit) (β := Int × EnvP × Unit) (fun self7 x5 =>
   if x5.1 < y0.tasks then
   if (((x5.2.1.recs.length + ([(⟨0, (-1), 0, 0, (-1), [], false⟩ : RecP)] : List RecP).length : Nat)) : Int) < 100000000000 then
   self7 (wi (x5.1 + 1), ({ x5.2.1 with recs := x5.2.1.recs ++ ([(⟨0, (-1), 0, 0, (-1), [], false⟩ : RecP)]) } : EnvP), ())
   else none
   else
   some (x5.1, x5.2.1, ())
   ) 18446744073709551616 (0, ({ r3.1.1 with c := r4.1.1, l := r1.1.1 } : EnvP), ())).bind fun z6 =>
   some ((z6.2.1, 0, ()), (()))
   else none
   else none
   else none
   else none
   else none
   else none
   else none
   else none
   else none
   else none
   else none
   else none
   else none
   else none
   else none
   else none
   else none
   else none
   else none
   else none
  else none
 else none
noncomputable abbrev ag9 : Con SR1 := ⟨21, [.val 13], [.sh (.own 27), .sh sI_], fun x => adS x.1⟩
theorem ai1 : CO Tryz.prog ag9 := aaq aap Tryz.func21 [alB, aqT, ai2, ajc] ⟨aoQ, asW, amg, amj, trivial⟩ [] trivial (fun _ => []) [(7, .loop [.rg 29 sI_, .rg 6 (.own 27)] 18446744073709551616 0)] fun x => by kernel_rfl
end
section
open Go Go.RowKit
set_option maxRecDepth 100000
end
section
open Go Go.RowKit
inductive Rs (σ : Type) where
  | go (s : σ)
  | fin (c v : Int)
inductive OPushS where
  | l1 | l2 (b : Int) | l3 (b : Int) | l4 (b : Int)
inductive OPopS where
  | l1 | l2 (b : Int) | l3 (b t : Int) | l4 (b t : Int) | l5 (b t : Int) | l6 (b t : Int) | l7 (b t : Int) | l8 (b t : Int) | l9 (b t : Int)
inductive StealS where
  | l1 | l2 (t : Int) | l3 (t : Int) | l4 (t v : Int)
inductive ResetS where
  | l1 | l2 | l3 (b : Int) | l4 (b : Int)
inductive PublishS where
  | l1 | l2 | l3
inductive InsertS where
  | l1 | l2 (n : Int) | l3 (n i k x : Int) | l4 (n i k x : Int) | l5 (n i k x : Int) | l6 (n i k x : Int)
inductive RemoveS where
  | l1 | l2 (n : Int) | l3 (n x : Int) | l4 (n x y : Int) | l5 (n i c x y z : Int) | l6 (n i c x y z : Int) | l7 (n i c x y z : Int) | l8 (n i c x y z : Int)
inductive WakeS where
  | l1 (j : Int) | l2 (j v : Int) | l3 (j v : Int)
inductive SleepS where
  | l1 | l2 (ep : Int) | l3 (ep : Int) | l4 (ep v : Int) | l5 (ep v s : Int) | l6 (ep v s : Int) | l7 (ep v s : Int)
inductive ProbeS where
  | new | run (start next : Int) (bm : B16)
inductive RaiseS where
  | l1 (q : Int) | l2 (q : Int)
inductive LPushS where
  | new | push (s : OPushS) | set
inductive LPopS where
  | l1 (v : Int) | l2 (v : Int) (s : OPopS) | l3 (v : Int) (s : ResetS)
inductive WalkS where
  | l1 (t : Int) | raise (t : Int) (s : RaiseS) | l2 (t : Int) | push (t : Int) (s : LPushS) | l4 (t : Int)
inductive EnterS where
  | l1 | l2 | l3 | l4 (v : Int) (s : LPushS)
inductive SweepS where
  | l1 | l2 | l3 | l4 (q : Int) | l5 (q : Int) | l6 (q : Int) (s : LPushS)
inductive TakeS where
  | pop (s : LPopS) | claim (t : Int)
inductive DrainC where
  | l1 | l2 | l3 (s : RemoveS) | l4 | l5 (s : LPushS) | l6 | l7 (s : WakeS)
structure DrainS where
  x : Int
  direct : Bool
  p : Int
  last : Int
  count : Int
  c : DrainC
inductive RunC where
  | next | s2 (s : PublishS) | s3 (s : LPushS) | s4 (s : WakeS) | s5 | j2 | j3 | j4 | j5 (s : WalkS) | j6 | j7 | f2 | f3 | f4 (s : EnterS) | f5 (v : Int) (s : WakeS) | f6
structure RunS where
  stack : List Int
  id : Int
  child : Int
  level : Int
  waiter : Int
  c : RunC
inductive WorkC where
  | top | t1 (t : Int) (s : SweepS) | t2 (s : TakeS) | t3 (s : DrainS) | t4 (s : ProbeS) | t5 (s : StealS) | t6 | t7 (s : RunS) | t8 (s : SleepS) | t9 (s : ResetS)
structure WorkS where
  cursor : Int
  victim : Int
  level : Int
  x : Int
  c : WorkC
inductive ClieC where
  | n1 | a1 | n2 | n3 | n4 | n5 | n6 | a6 (s : InsertS) | n7 | n8 | n9 | a9 (s : WakeS)
structure ClieS where
  i : Int
  id : Int
  acc : Bool
  c : ClieC
def MemV.gt (m : MemV) (a : Int) : Int := if 0 ≤ a ∧ a < (m.cells.length : Int) then aeG m.cells a else 0
def MemV.pt (m : MemV) (k a v : Int) : MemV := if 0 ≤ a ∧ a < (m.cells.length : Int) then ⟨m.cells.set a.toNat v, ⟨k, a, aeG m.cells a, v⟩, wi (m.count + 1)⟩ else m
def MemV.hit (m : MemV) (a o : Int) : Bool := decide ((0 ≤ a ∧ a < (m.cells.length : Int)) ∧ aeG m.cells a = o)
def MemV.cas (m : MemV) (a o v : Int) : MemV := m.pt 3 a (if m.gt a = o then v else m.gt a)
abbrev EnvP.gt (e : EnvP) (a : Int) : Int := e.m.gt a
def EnvP.pt (e : EnvP) (k a v : Int) : EnvP := { e with m := e.m.pt k a v }
def EnvP.lk (e : EnvP) (a : Int) : EnvP := { e with m := e.m.pt 1 a (e.m.gt a) }
abbrev EnvP.hit (e : EnvP) (a o : Int) : Bool := e.m.hit a o
def EnvP.cas (e : EnvP) (a o v : Int) : EnvP := { e with m := e.m.cas a o v }
def EnvP.em (e : EnvP) (k w t o l : Int) : EnvP := { e with evs := e.evs ++ [⟨k, w, t, o, l⟩] }
def EnvP.rc (e : EnvP) (t : Int) : RecP := aab e.recs t
def EnvP.pr (e : EnvP) (t : Int) (r : RecP) : EnvP := { e with recs := e.recs.set t.toNat r }
def IsT (e : EnvP) (t : Int) : Prop := 0 ≤ t ∧ t < e.c.tasks
instance (e : EnvP) (t : Int) : Decidable (IsT e t) := inferInstanceAs (Decidable (_ ∧ _))
def awo (e : EnvP) (t v : Int) : Prop := (0 ≤ t ∧ t < e.c.tasks) ∧ 0 ≤ v ∧ v < e.c.levels
instance (e : EnvP) (t v : Int) : Decidable (awo e t v) := inferInstanceAs (Decidable (_ ∧ _))
def szP (b t : Int) : Int := wi (wu (b - t))
def alX (q : QV) (i : Int) : Int := if q.cap < 1 then -1 else wi (q.ring + wi (Int.tmod i (wu q.cap)))
def arX (n : Int) : Int := if n < 0 then 0 else if 63 < n then 0 else wu (1 * 2 ^ min (wu n).toNat IntKind.u64.bits)
def apd (a n : Int) : Int := if n < 1 then 0 else if Int.tmod a n < 0 then wi (Int.tmod a n + n) else Int.tmod a n
def atP (i n a w : Int) : Int := if i < 0 then -1 else if n ≤ i then -1 else wi (a + wi (i * w))
def apq (l : LayV) (t f : Int) : Int := atP t l.tasks (wi (l.table + f)) 5
def acq (l : LayV) (t : Int) : Int := apq l t 0
def ac7 (l : LayV) (t : Int) : Int := apq l t 1
def ae3 (l : LayV) (t : Int) : Int := apq l t 2
def ahR (l : LayV) (t : Int) : Int := apq l t 3
def amm (l : LayV) (t : Int) : Int := apq l t 4
def ajs (l : LayV) (i : Int) : Int := atP i l.heap 4 1
def ahg (l : LayV) (w : Int) : Int := atP w l.workers l.epochs 1
def ak8 (l : LayV) (k : Int) : Int := atP k l.classes l.sleepers 1
def aaN (l : LayV) (w : Int) : Int := atP w l.workers l.bitmaps 1
def aa6 (l : LayV) (w v : Int) : QV :=
  if atP w l.workers l.queues (wi (l.levels * wi (2 + l.deque))) < 0 then ⟨-1, -1, -1, 0⟩
  else if atP v l.levels (atP w l.workers l.queues (wi (l.levels * wi (2 + l.deque)))) (wi (2 + l.deque)) < 0 then ⟨-1, -1, -1, 0⟩
  else ⟨atP v l.levels (atP w l.workers l.queues (wi (l.levels * wi (2 + l.deque)))) (wi (2 + l.deque)), wi (atP v l.levels (atP w l.workers l.queues (wi (l.levels * wi (2 + l.deque)))) (wi (2 + l.deque)) + 1), wi (atP v l.levels (atP w l.workers l.queues (wi (l.levels * wi (2 + l.deque)))) (wi (2 + l.deque)) + 2), l.deque⟩
def atN (l n c : Int) : Int := if n < 1 then 0 else if 64 < n then 0 else if c < 1 then 0 else if 8 < c then 0 else if l < 0 then 0 else if n ≤ l then 0 else wi (Int.tdiv (wi (l * c)) n)
def ath (k : Int) : Int := wi (aqe k 65535)
noncomputable def ami (x : Int) : Int := match afa x with
  | some o => o.1.1
  | none => 0
def ap2 (k : ClkV) (n : Int) : Int := apd k.draw n
def ahY (q : QV) (v : Int) (e : EnvP) : OPushS → Rs OPushS × EnvP
  | .l1 => (.go (.l2 (e.gt q.bottom)), e.lk q.bottom)
  | .l2 b => (if q.cap ≤ szP b (e.gt q.top) then .fin 3 0 else .go (.l3 b), e.lk q.top)
  | .l3 b => (.go (.l4 b), e.pt 2 (alX q b) (wu v))
  | .l4 b => (.fin 0 0, e.pt 2 q.bottom (wu (b + 1)))
def ag7 (q : QV) (e : EnvP) : OPopS → Rs OPopS × EnvP
  | .l1 => (.go (.l2 (e.gt q.bottom)), e.lk q.bottom)
  | .l2 b => (if szP b (e.gt q.top) ≤ 0 then .fin 2 0 else .go (.l3 b (e.gt q.top)), e.lk q.top)
  | .l3 b t => (.go (.l4 b t), e.pt 2 q.bottom (wu (b - 1)))
  | .l4 b _ => (if 0 < szP (wu (b - 1)) (e.gt q.top) then .go (.l5 b (e.gt q.top)) else if szP (wu (b - 1)) (e.gt q.top) = 0 then .go (.l6 b (e.gt q.top)) else .go (.l9 b (e.gt q.top)), e.lk q.top)
  | .l5 b _ => (.fin 1 (wi (e.gt (alX q (wu (b - 1))))), e.lk (alX q (wu (b - 1))))
  | .l6 b t => (if e.hit q.top t = true then .go (.l7 b t) else .go (.l9 b t), e.cas q.top t (wu (t + 1)))
  | .l7 b t => (.go (.l8 b t), e.pt 2 q.bottom b)
  | .l8 b _ => (.fin 1 (wi (e.gt (alX q (wu (b - 1))))), e.lk (alX q (wu (b - 1))))
  | .l9 b _ => (.fin 2 0, e.pt 2 q.bottom b)
def ak6 (q : QV) (e : EnvP) : StealS → Rs StealS × EnvP
  | .l1 => (.go (.l2 (e.gt q.top)), e.lk q.top)
  | .l2 t => (if szP (e.gt q.bottom) t ≤ 0 then .fin 2 0 else .go (.l3 t), e.lk q.bottom)
  | .l3 t => (.go (.l4 t (e.gt (alX q t))), e.lk (alX q t))
  | .l4 t v => (if e.hit q.top t = true then .fin 1 (wi v) else .fin 4 0, e.cas q.top t (wu (t + 1)))
def afH (a b : Int) (q : QV) (e : EnvP) : ResetS → Rs ResetS × EnvP
  | .l1 => (.go .l2, e.pt 5 a (aqe (e.gt a) (auo (arX b))))
  | .l2 => (.go (.l3 (e.gt q.bottom)), e.lk q.bottom)
  | .l3 x => (if szP x (e.gt q.top) ≤ 0 then .fin 2 0 else .go (.l4 x), e.lk q.top)
  | .l4 _ => (.fin 1 0, e.pt 4 a (orU (e.gt a) (arX b)))
def az5 (a b : Int) (e : EnvP) : EnvP := e.pt 4 a (orU (e.gt a) (arX b))
def al5 (e : EnvP) : EnvP := e.pt 6 0 (wu (e.gt 0 + 1))
def aff (t v : Int) (e : EnvP) (s : PublishS) : Rs PublishS × EnvP :=
  if ¬ IsT e t then (.fin 4 0, e)
  else match s with
    | .l1 => (.go .l2, e.pt 2 (ac7 e.l t) (wu v))
    | .l2 => (.go .l3, e.pt 2 (amm e.l t) (wu e.k.now))
    | .l3 => (.fin 0 0, e.pt 2 (acq e.l t) 1)
def ae6 (t : Int) (e : EnvP) : Bool := e.hit (acq e.l t) 1
def ahi (w t : Int) (e : EnvP) : EnvP :=
  if ae6 t e = true then
    if (e.rc t).started = true then (e.cas (acq e.l t) 1 2).em 9 w t 0 0 else ((e.cas (acq e.l t) 1 2).pr t { e.rc t with started := true }).em 5 w t 0 0
  else (e.cas (acq e.l t) 1 2).em 15 w t 0 0
def axA (o : Int) (e : EnvP) : EnvP := e.cas 1 0 (wu (wi (o + 1)))
def axN (e : EnvP) : EnvP := e.pt 2 1 0
def atR (n i c x y z : Int) : RemoveS := if wi (wi (2 * i) + 1) < wi (n - 1) then .l5 n i c x y z else .l8 n i c x y z
def avK (n i c x y z : Int) : RemoveS := if z < y then .l7 n i c x y z else .l8 n i c x y z
def aia (w : Int) (e : EnvP) : RemoveS → Rs RemoveS × EnvP
  | .l1 => (if wi (e.gt 2) ≤ 0 then .fin 2 0 else .go (.l2 (wi (e.gt 2))), e.lk 2)
  | .l2 n => (.go (.l3 n (e.gt (ajs e.l 0))), e.lk (ajs e.l 0))
  | .l3 n x => (.go (.l4 n x (e.gt (ajs e.l (wi (n - 1))))), e.lk (ajs e.l (wi (n - 1))))
  | .l4 n x y => (if n = 1 then .fin 1 (ath x) else .go (atR n 0 0 x y 0), (e.pt 2 2 (wu (wi (n - 1)))).em 13 w (ath x) 0 0)
  | .l5 n i _ x y _ => (if wi (wi (wi (2 * i) + 1) + 1) < wi (n - 1) then .go (.l6 n i (wi (wi (2 * i) + 1)) x y (e.gt (ajs e.l (wi (wi (2 * i) + 1))))) else .go (avK n i (wi (wi (2 * i) + 1)) x y (e.gt (ajs e.l (wi (wi (2 * i) + 1))))), e.lk (ajs e.l (wi (wi (2 * i) + 1))))
  | .l6 n i c x y z => (if e.gt (ajs e.l (wi (wi (2 * i) + 2))) < z then .go (avK n i (wi (wi (2 * i) + 2)) x y (e.gt (ajs e.l (wi (wi (2 * i) + 2))))) else .go (avK n i c x y z), e.lk (ajs e.l (wi (wi (2 * i) + 2))))
  | .l7 n i c x y z => (.go (atR n c c x y z), e.pt 2 (ajs e.l i) z)
  | .l8 _ i _ x y _ => (.fin 1 (ath x), e.pt 2 (ajs e.l i) y)
def agR (w : Int) (e : EnvP) : Int := if e.c.classes < 1 then -1 else ak8 e.l (apd w e.c.classes)
def ags (w : Int) (e : EnvP) : SleepS → Rs SleepS × EnvP
  | .l1 => (.go (.l2 (e.gt (ahg e.l w))), e.lk (ahg e.l w))
  | .l2 ep => (.go (.l3 ep), e.pt 4 (agR w e) (orU (e.gt (agR w e)) (arX w)))
  | .l3 ep => (if e.gt 2 ≠ 0 then .go (.l7 ep 0 0) else .go (.l4 ep 0), e.lk 2)
  | .l4 ep v =>
    if e.gt (aaN e.l v) ≠ 0 then (.go (.l7 ep v 0), e.lk (aaN e.l v))
    else if e.c.workers ≤ wi (v + 1) then (.go (.l5 ep (wi (v + 1)) e.k.now), (e.lk (aaN e.l v)).em 16 w 0 0 0)
    else (.go (.l4 ep (wi (v + 1))), e.lk (aaN e.l v))
  | .l5 ep v s =>
    if e.gt (ahg e.l w) ≠ ep then (.go (.l6 ep v s), (e.lk (ahg e.l w)).em 17 w 0 1 0)
    else if e.c.patience ≤ wi (e.k.now - s) then (.go (.l6 ep v s), (e.lk (ahg e.l w)).em 17 w 0 2 0)
    else (.go (.l5 ep v s), e.lk (ahg e.l w))
  | .l6 _ _ _ => (.fin 1 0, e.pt 5 (agR w e) (aqe (e.gt (agR w e)) (auo (arX w))))
  | .l7 _ _ _ => (.fin 5 0, e.pt 5 (agR w e) (aqe (e.gt (agR w e)) (auo (arX w))))
def an8 (v j : Int) (e : EnvP) : Int := if e.c.classes < 1 then -1 else ak8 e.l (apd (wi (atN v e.c.levels e.c.classes + j)) e.c.classes)
noncomputable def aAh [Tb] (x : Int) : Int := if x = 0 then -1 else tzV x
noncomputable def aio [Tb] (w v : Int) (e : EnvP) : WakeS → Rs WakeS × EnvP
  | .l1 j => (if e.gt (an8 v j e) ≠ 0 then .go (.l2 j (aAh (e.gt (an8 v j e)))) else if e.c.classes ≤ wi (j + 1) then .fin 2 0 else .go (.l1 (wi (j + 1))), e.lk (an8 v j e))
  | .l2 j x => (if aqe (e.gt (an8 v j e)) (arX x) = 0 then .fin 4 0 else .go (.l3 j x), e.pt 5 (an8 v j e) (aqe (e.gt (an8 v j e)) (auo (arX x))))
  | .l3 _ x => (.fin 1 x, (e.pt 6 (ahg e.l x) (wu (e.gt (ahg e.l x) + 1))).em 18 w 0 x 0)
def agX (w t v : Int) (e : EnvP) (s : RaiseS) : Rs RaiseS × EnvP :=
  if ¬ awo e t v then (.fin 4 0, e)
  else match s with
    | .l1 _ => (if v ≤ wi (e.gt (ac7 e.l t)) then .fin 0 0 else .go (.l2 (e.gt (ac7 e.l t))), e.lk (ac7 e.l t))
    | .l2 q => if e.hit (ac7 e.l t) q = true then (.fin 1 0, (e.cas (ac7 e.l t) q (wu v)).em 11 w t 0 v) else (.go (.l1 q), e.cas (ac7 e.l t) q (wu v))
def B16.at (b : B16) (i : Int) : Int :=
  if i = 15 then b.b15 else if i = 14 then b.b14 else if i = 13 then b.b13 else if i = 12 then b.b12 else if i = 11 then b.b11 else if i = 10 then b.b10 else if i = 9 then b.b9 else if i = 8 then b.b8
  else if i = 7 then b.b7 else if i = 6 then b.b6 else if i = 5 then b.b5 else if i = 4 then b.b4 else if i = 3 then b.b3 else if i = 2 then b.b2 else if i = 1 then b.b1 else b.b0
def B16.put (b : B16) (i v : Int) : B16 :=
  if i = 15 then { b with b15 := v } else if i = 14 then { b with b14 := v } else if i = 13 then { b with b13 := v } else if i = 12 then { b with b12 := v } else if i = 11 then { b with b11 := v } else if i = 10 then { b with b10 := v }
  else if i = 9 then { b with b9 := v } else if i = 8 then { b with b8 := v } else if i = 7 then { b with b7 := v } else if i = 6 then { b with b6 := v } else if i = 5 then { b with b5 := v } else if i = 4 then { b with b4 := v }
  else if i = 3 then { b with b3 := v } else if i = 2 then { b with b2 := v } else if i = 1 then { b with b1 := v } else { b with b0 := v }
def azU : B16 := ⟨0, 0, 0, 0, 0, 0, 0, 0, 0, 0, 0, 0, 0, 0, 0, 0⟩
def ab6 (e : EnvP) : Int := if 16 < e.c.workers then 16 else e.c.workers
def akx (w n s i : Int) : Int := if i < n ∧ Int.tmod (wi (s + i)) n = w then wi (i + 1) else i
noncomputable def arE (w n s : Int) (bm : B16) : Nat → Int → Int × Int → Int × Int
  | 0, _, r => r
  | k + 1, i, r => arE w n s bm k (i + 1) (if Int.tmod (wi (s + i)) n ≠ w ∧ r.2 < ami (bm.at (Int.tmod (wi (s + i)) n)) then (Int.tmod (wi (s + i)) n, ami (bm.at (Int.tmod (wi (s + i)) n))) else r)
noncomputable def alV (w n s : Int) (bm : B16) : Int × Int := arE w n (apd s n) bm n.toNat 0 (-1, -1)
noncomputable def amu (w : Int) (e : EnvP) (s i : Int) (bm : B16) : Rs ProbeS × EnvP :=
  if ab6 e ≤ akx w (ab6 e) s i then (.fin 2 0, e)
  else
    let v := Int.tmod (wi (s + akx w (ab6 e) s i)) (ab6 e)
    let bm' := bm.put v (e.gt (aaN e.l v))
    let i' := akx w (ab6 e) s (wi (akx w (ab6 e) s i + 1))
    if ab6 e ≤ i' then
      (if (alV w (ab6 e) s bm').1 < 0 then .fin 2 0 else .fin 1 (wi (wi ((alV w (ab6 e) s bm').1 * 64) + (alV w (ab6 e) s bm').2)), e.lk (aaN e.l v))
    else (.go (.run s i' bm'), e.lk (aaN e.l v))
noncomputable def aox (w : Int) (e : EnvP) : ProbeS → Rs ProbeS × EnvP
  | .new => amu w e (ap2 e.k (ab6 e)) 0 azU
  | .run s i bm => amu w e s i bm
def acZ (w v x : Int) (e : EnvP) : LPushS → Rs LPushS × EnvP
  | .new => match ahY (aa6 e.l w v) x e .l1 with
    | (.go s, e') => (.go (.push s), e')
    | (.fin c _, e') => (if c = 3 then .fin 3 0 else .go .set, e')
  | .push s => match ahY (aa6 e.l w v) x e s with
    | (.go s, e') => (.go (.push s), e')
    | (.fin c _, e') => (if c = 3 then .fin 3 0 else .go .set, e')
  | .set => (.fin 0 0, az5 (aaN e.l w) v e)
noncomputable def aen (w : Int) (e : EnvP) : LPopS → Rs LPopS × EnvP
  | .l1 _ => (if e.gt (aaN e.l w) = 0 then .fin 2 0 else .go (.l2 (ami (e.gt (aaN e.l w))) .l1), e.lk (aaN e.l w))
  | .l2 v s => match ag7 (aa6 e.l w v) e s with
    | (.go s, e') => (.go (.l2 v s), e')
    | (.fin c x, e') => (if c = 1 then .fin 1 x else .go (.l3 v .l1), e')
  | .l3 v s => match afH (aaN e.l w) v (aa6 e.l w v) e s with
    | (.go s, e') => (.go (.l3 v s), e')
    | (.fin _ _, e') => (.go (.l1 v), e')
def ah6 (w v : Int) (e : EnvP) : WalkS → Rs WalkS × EnvP
  | .l1 t => if ¬ awo e t v then (.fin 4 0, e) else match agX w t v e (.l1 0) with
    | (.go s, e') => (.go (.raise t s), e')
    | (.fin c _, e') => (.go (if c = 1 then .l2 t else .l4 t), e')
  | .raise t s => match agX w t v e s with
    | (.go s, e') => (.go (.raise t s), e')
    | (.fin c _, e') => (.go (if c = 1 then .l2 t else .l4 t), e')
  | .l2 t => (.go (if e.gt (acq e.l t) = 1 then .push t .new else .l4 t), e.lk (acq e.l t))
  | .push t s => match acZ w v t e s with
    | (.go s, e') => (.go (.push t s), e')
    | (.fin c _, e') => (.go (.l4 t), if c = 3 then e'.em 19 w t 0 v else e')
  | .l4 t => (if e.gt (ahR e.l t) = 0 then .fin 0 0 else .go (.l1 (wi (wu (e.gt (ahR e.l t) - 1)))), e.lk (ahR e.l t))
def afN (w t : Int) (e : EnvP) : EnterS → Rs EnterS × EnvP
  | .l1 => if ¬ IsT e t then (.fin 4 0, e) else (.go .l2, e.pt 2 (amm e.l t) (wu e.k.now))
  | .l2 => (.go .l3, e.pt 2 (acq e.l t) 1)
  | .l3 => (.go (.l4 (wi (e.gt (ac7 e.l t))) .new), e.lk (ac7 e.l t))
  | .l4 v s => match acZ w v t e s with
    | (.go s, e') => (.go (.l4 v s), e')
    | (.fin c _, e') => (.fin c v, e')
def acp (w t : Int) (e : EnvP) : SweepS → Rs SweepS × EnvP
  | .l1 => if ¬ IsT e t ∨ e.c.age = 0 then (.fin 0 0, e) else (if e.gt (acq e.l t) = 1 then .go .l2 else .fin 0 0, e.lk (acq e.l t))
  | .l2 => (if wi (e.k.now - wi (e.gt (amm e.l t))) < e.c.age then .fin 0 0 else .go .l3, e.lk (amm e.l t))
  | .l3 => (if wi (e.c.levels - 1) ≤ wi (e.gt (ac7 e.l t)) then .fin 0 0 else .go (.l4 (e.gt (ac7 e.l t))), e.lk (ac7 e.l t))
  | .l4 q => if e.hit (ac7 e.l t) q = true then (.go (.l5 q), (e.cas (ac7 e.l t) q (wu (q + 1))).em 12 w t 0 (wi (wi q + 1))) else (.fin 4 0, e.cas (ac7 e.l t) q (wu (q + 1)))
  | .l5 q => (.go (.l6 q .new), e.pt 2 (amm e.l t) (wu e.k.now))
  | .l6 q s => match acZ w (wi (wi q + 1)) t e s with
    | (.go s, e') => (.go (.l6 q s), e')
    | (.fin c _, e') => (.fin 1 0, if c = 3 then e'.em 19 w t 0 (wi (wi q + 1)) else e')
noncomputable def aex (w : Int) (e : EnvP) : TakeS → Rs TakeS × EnvP
  | .pop s => match aen w e s with
    | (.go s, e') => (.go (.pop s), e')
    | (.fin c x, e') => (if c = 2 then .fin 2 0 else .go (.claim x), e')
  | .claim t => (if ae6 t e = true then .fin 1 t else .go (.pop (.l1 0)), ahi w t e)
def aq8 (s : DrainS) : Rs DrainS := if s.direct = true then .fin 1 s.x else if 0 < s.count then .fin 0 s.count else .fin 2 0
noncomputable def aeu [Tb] (w : Int) (e : EnvP) (d : DrainS) : Rs DrainS × EnvP :=
  match d.c with
  | .l1 => (if wi (e.gt 2) ≤ 0 then .fin 2 0 else .go { d with c := .l2 }, e.lk 2)
  | .l2 => (if e.hit 1 0 = true then .go { d with c := .l3 .l1 } else .fin 5 0, axA w e)
  | .l3 s => match aia w e s with
    | (.go s, e') => (.go { d with c := .l3 s }, e')
    | (.fin c x, e') => (if c = 2 then .go { d with c := .l6 } else .go { d with x := x, c := .l4 }, e')
  | .l4 => (.go { d with p := wi (e.gt (ac7 e.l d.x)), c := .l5 .new }, e.lk (ac7 e.l d.x))
  | .l5 s => match acZ w d.p d.x e s with
    | (.go s, e') => (.go { d with c := .l5 s }, e')
    | (.fin c _, e') => (if c = 3 then .go { d with direct := true, c := .l6 } else if wi (d.count + 1) < e.c.batch then .go { d with last := d.p, count := wi (d.count + 1), c := .l3 .l1 } else .go { d with last := d.p, count := wi (d.count + 1), c := .l6 }, e')
  | .l6 => (if 0 < d.count then .go { d with c := .l7 (.l1 0) } else aq8 d, axN e)
  | .l7 s => match aio w d.last e s with
    | (.go s, e') => (.go { d with c := .l7 s }, e')
    | (.fin _ _, e') => (aq8 d, e')
def aaH (l : List Int) : Int := l.getLast?.getD 0
def ai8 (r : RunS) (e : EnvP) : Rs RunS × EnvP := (if r.stack.length = 1 then .fin 0 0 else .go { r with stack := r.stack.dropLast, c := .next }, e)
def arO (x : RecP) (i : Ins) : RecP :=
  if wi ((if x.left = 0 then i.a else x.left) - 1) = 0 then { x with left := wi ((if x.left = 0 then i.a else x.left) - 1), pc := wi (x.pc + 1) } else { x with left := wi ((if x.left = 0 then i.a else x.left) - 1) }
def EnvP.prog (e : EnvP) (x : RecP) : List Ins := if x.prog < 0 ∨ (e.c.progs.length : Int) ≤ x.prog then [] else atL [] e.c.progs x.prog
def aAW (p t : Int) : RecP := ⟨p, t, 0, 0, -1, [], false⟩
def as9 (w : Int) (e : EnvP) (r : RunS) (t : Int) (x : RecP) (p : List Ins) : Rs RunS × EnvP :=
  if x.waiting ≠ -1 then (.go r, (e.pt 2 (ahR e.l t) 0).pr t { x with waiting := -1 })
  else if x.pc < 0 ∨ (p.length : Int) ≤ x.pc then (.go { r with c := .f2 }, e.pt 2 (acq e.l t) 4)
  else if (abM p x.pc).op = 0 then (.go r, e.pr t (arO x (abM p x.pc)))
  else if (abM p x.pc).op = 1 then
    if IsT e (wi (e.gt 0)) then (.go { r with id := wi (e.gt 0), level := (abM p x.pc).b, c := .s2 .l1 }, ((al5 e).pr t { x with pc := wi (x.pc + 1), kids := x.kids ++ [wi (e.gt 0)] }).pr (wi (e.gt 0)) (aAW (abM p x.pc).a t))
    else (.go r, ((al5 e).pr t { x with pc := wi (x.pc + 1), kids := x.kids ++ [-1] }).em 4 w t 0 0)
  else if (abM p x.pc).a < 0 ∨ (x.kids.length : Int) ≤ (abM p x.pc).a ∨ aae x.kids (abM p x.pc).a = -1 then (.go r, e.pr t { x with pc := wi (x.pc + 1) })
  else (.go { r with child := aae x.kids (abM p x.pc).a, c := .j2 }, (e.pt 2 (ahR e.l t) (wu (wi (aae x.kids (abM p x.pc).a + 1)))).pr t { x with pc := wi (x.pc + 1), waiting := aae x.kids (abM p x.pc).a })
noncomputable def arx [Tb] (w : Int) (e : EnvP) (r : RunS) (t : Int) : Rs RunS × EnvP :=
  match r.c with
  | .next => as9 w e r t (e.rc t) (e.prog (e.rc t))
  | .s2 s => match aff r.id r.level e s with
    | (.go s, e') => (.go { r with c := .s2 s }, e')
    | (.fin _ _, e') => (.go { r with c := .s3 .new }, e'.em 3 w r.id t r.level)
  | .s3 s => match acZ w r.level r.id e s with
    | (.go s, e') => (.go { r with c := .s3 s }, e')
    | (.fin c _, e') => (.go { r with c := if c = 3 then .s5 else .s4 (.l1 0) }, e')
  | .s4 s => match aio w r.level e s with
    | (.go s, e') => (.go { r with c := .s4 s }, e')
    | (.fin _ _, e') => (.go { r with c := .next }, e')
  | .s5 => (.go (if ae6 r.id e = true then { r with stack := r.stack ++ [r.id], c := .next } else { r with c := .next }), ahi w r.id e)
  | .j2 => (.go { r with c := .j3 }, e.pt 2 (acq e.l t) 3)
  | .j3 => if e.hit (ae3 e.l r.child) 0 = true then (.go { r with c := .j4 }, (e.cas (ae3 e.l r.child) 0 (wu (wi (t + 1)))).em 6 w t r.child 0) else (.go { r with c := .j6 }, e.cas (ae3 e.l r.child) 0 (wu (wi (t + 1))))
  | .j4 => (.go { r with level := wi (e.gt (ac7 e.l t)), c := .j5 (.l1 r.child) }, e.lk (ac7 e.l t))
  | .j5 s => match ah6 w r.level e s with
    | (.go s, e') => (.go { r with c := .j5 s }, e')
    | (.fin _ _, e') => ai8 r (e'.em 7 w t 0 r.level)
  | .j6 => (.go { r with c := .j7 }, e.pt 2 (acq e.l t) 2)
  | .j7 => (.go { r with c := .next }, ((e.pt 2 (ahR e.l t) 0).pr t { e.rc t with waiting := -1 }).em 8 w t r.child 0)
  | .f2 => if e.hit (ae3 e.l t) 0 = true then ai8 r ((e.cas (ae3 e.l t) 0 4294967296).em 10 w t 0 0) else (.go { r with c := .f3 }, (e.cas (ae3 e.l t) 0 4294967296).em 10 w t 0 0)
  | .f3 => if IsT e (wi (wi (e.gt (ae3 e.l t)) - 1)) then (.go { r with waiter := wi (wi (e.gt (ae3 e.l t)) - 1), c := .f4 .l1 }, e.lk (ae3 e.l t)) else ai8 { r with waiter := wi (wi (e.gt (ae3 e.l t)) - 1) } (e.lk (ae3 e.l t))
  | .f4 s => match afN w r.waiter e s with
    | (.go s, e') => (.go { r with c := .f4 s }, e')
    | (.fin c v, e') => (.go { r with c := if c = 3 then .f6 else .f5 v (.l1 0) }, e')
  | .f5 v s => match aio w v e s with
    | (.go s, e') => (.go { r with c := .f5 v s }, e')
    | (.fin _ _, e') => ai8 r e'
  | .f6 => if ae6 r.waiter e = true then (.go { r with stack := r.stack.dropLast ++ [r.waiter], c := .next }, ahi w r.waiter e) else ai8 r (ahi w r.waiter e)
noncomputable def asu [Tb] (w : Int) (e : EnvP) (r : RunS) : Rs RunS × EnvP := if ¬ IsT e (aaH r.stack) then (.fin 4 0, e) else arx w e r (aaH r.stack)
def ary (t : Int) : RunS := ⟨[t], 0, 0, 0, 0, .next⟩
def aoX : DrainS := ⟨0, false, 0, 0, 0, .l1⟩
def ar7 : TakeS := .pop (.l1 0)
def abf (w : Int) (e : EnvP) (k : WorkS) : WorkC := match k.c with
  | .top => if e.c.age = 0 then .t2 ar7 else .t1 (apd (wi (apd w e.c.tasks + k.cursor)) e.c.tasks) .l1
  | c => c
def avu (e : EnvP) : WorkC := if e.c.workers = 1 then .t8 .l1 else .t4 .new
noncomputable def aaY [Tb] (w : Int) (e : EnvP) (k : WorkS) : WorkS × EnvP :=
  match abf w e k with
  | .top => (k, e)
  | .t1 t s => match acp w t e s with
    | (.go s, e') => ({ k with c := .t1 t s }, e')
    | (.fin _ _, e') => ({ k with cursor := wi (k.cursor + 1), c := .t2 ar7 }, e')
  | .t2 s => match aex w e s with
    | (.go s, e') => ({ k with c := .t2 s }, e')
    | (.fin c x, e') => (if c = 1 then { k with x := x, c := .t7 (ary x) } else { k with c := .t3 aoX }, e')
  | .t3 s => match aeu w e s with
    | (.go s, e') => ({ k with c := .t3 s }, e')
    | (.fin c x, e') => (if c = 1 then { k with x := x, c := .t6 } else if c = 0 then { k with c := .t2 ar7 } else { k with c := avu e' }, e')
  | .t4 s => match aox w e s with
    | (.go s, e') => ({ k with c := .t4 s }, e')
    | (.fin c x, e') => (if c = 2 then { k with c := .t8 .l1 } else { k with victim := wi (Int.tdiv x 64), level := Int.tmod x 64, c := .t5 .l1 }, e')
  | .t5 s => match ak6 (aa6 e.l k.victim k.level) e s with
    | (.go s, e') => ({ k with c := .t5 s }, e')
    | (.fin c x, e') => if c = 1 then ({ k with x := x, c := .t6 }, e'.em 14 w x k.victim k.level) else if c = 2 then ({ k with c := .t9 .l1 }, e') else ({ k with c := .top }, e')
  | .t6 => (if ae6 k.x e = true then { k with c := .t7 (ary k.x) } else { k with c := .top }, ahi w k.x e)
  | .t7 s => match asu w e s with
    | (.go s, e') => ({ k with c := .t7 s }, e')
    | (.fin _ _, e') => ({ k with c := .top }, e')
  | .t8 s => match ags w e s with
    | (.go s, e') => ({ k with c := .t8 s }, e')
    | (.fin _ _, e') => ({ k with c := .top }, e')
  | .t9 s => match afH (aaN e.l k.victim) k.level (aa6 e.l k.victim k.level) e s with
    | (.go s, e') => ({ k with c := .t9 s }, e')
    | (.fin _ _, e') => ({ k with c := .top }, e')
end
end Go.Proofs.YtlcelajkhklkbaaGreat
