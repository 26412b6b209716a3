/- The program's machines in the evaluator's form. The program's machines in the evaluator's form: all. The program's machines, said plainly: their states, and what a step does. No program occurs here but its numbers. The program's machines do what was said plainly, 1: memory, cells, words, the machines that run none inside. The program's machines do what was said plainly, 2: probing. What a step of the program's machines leaves of the environment: at most one access, few events, records of the same number. The program's machines do what was said plainly, 3: the machines that run others inside. The program's machines do what was said plainly: a sweep. The program's machines do what was said plainly, 4: a drain. The program's machines do what was said plainly, 5: running a task: parts. The program's machines do what was said plainly, 6: running a task: lines. -/
import Derived.Test.YtlcelajkhklkbaaGreatRcan
set_option linter.all false
namespace Go.Proofs.YtlcelajkhklkbaaGreat
section
open Go Go.RowKit
set_option maxRecDepth 100000
variable [Tb]
noncomputable def aeg (y0 : Cfg) : Option ((Cfg × Unit) × (Unit)) :=
 (ae1 y0.progs).bind fun r1 =>
 (lpF (σ := Int × (Int × Int × Int × Int × Int × Int × Int × Int × Int × List (List Ins) × List Sub × Unit) × Unit) (β := Int × (Int × Int × Int × Int × Int × Int × Int × Int × Int × List (List Ins) × List Sub × Unit) × Unit) (fun self4 x2 =>
  if x2.1 < ((r1.1.1.length : Nat) : Int) then
   if 0 ≤ x2.1 ∧ x2.1 < ((x2.2.1.2.2.2.2.2.2.2.2.2.1.length : Nat) : Int) then
   (agG (arG x2.2.1.2.2.2.2.2.2.2.2.2.1 x2.1)).bind fun r5 =>
   if 0 ≤ x2.1 ∧ x2.1 < ((x2.2.1.2.2.2.2.2.2.2.2.2.1.length : Nat) : Int) then
   self4 (wi (x2.1 + 1), (x2.2.1.1, x2.2.1.2.1, x2.2.1.2.2.1, x2.2.1.2.2.2.1, x2.2.1.2.2.2.2.1, x2.2.1.2.2.2.2.2.1, x2.2.1.2.2.2.2.2.2.1, x2.2.1.2.2.2.2.2.2.2.1, x2.2.1.2.2.2.2.2.2.2.2.1, x2.2.1.2.2.2.2.2.2.2.2.2.1.set x2.1.toNat r5.1.1, x2.2.1.2.2.2.2.2.2.2.2.2.2.1, ()), ())
   else none
   else none
  else
  some (x2.1, (x2.2.1.1, x2.2.1.2.1, x2.2.1.2.2.1, x2.2.1.2.2.2.1, x2.2.1.2.2.2.2.1, x2.2.1.2.2.2.2.2.1, x2.2.1.2.2.2.2.2.2.1, x2.2.1.2.2.2.2.2.2.2.1, x2.2.1.2.2.2.2.2.2.2.2.1, x2.2.1.2.2.2.2.2.2.2.2.2.1, x2.2.1.2.2.2.2.2.2.2.2.2.2.1, ()), ())
 ) 18446744073709551616 (0, (y0.workers, y0.levels, y0.classes, y0.tasks, y0.deque, y0.heap, y0.batch, y0.age, y0.patience, r1.1.1, y0.subs, ()), ())).bind fun z3 =>
 (ae0 z3.2.1.2.2.2.2.2.2.2.2.2.2.1).bind fun r6 =>
 some (((⟨z3.2.1.1, z3.2.1.2.1, z3.2.1.2.2.1, z3.2.1.2.2.2.1, z3.2.1.2.2.2.2.1, z3.2.1.2.2.2.2.2.1, z3.2.1.2.2.2.2.2.2.1, z3.2.1.2.2.2.2.2.2.2.1, z3.2.1.2.2.2.2.2.2.2.2.1, z3.2.1.2.2.2.2.2.2.2.2.2.1, r6.1.1⟩ : Cfg), ()), (()))
noncomputable abbrev ahW : Con SR1 := ⟨44, [.val 13], [.val 13], fun x => aeg x.1⟩
theorem akL : CO Tryz.prog ahW := aar aaq Tryz.func44 [afs, ak9, ako] ⟨am9, aoh, am8, trivial⟩ [] trivial (fun _ => []) [(3, .loop [.rg 11 sI_, .cs 11 [sI_, sI_, sI_, sI_, sI_, sI_, sI_, sI_, sI_, (.row 18), (.ro 4)]] 18446744073709551616 0)] fun x => by kernel_rfl
noncomputable def ahT (y0 : Cfg) : Option ((LayV × Int × Unit) × (Unit)) :=
 (al4 y0).bind fun r1 =>
 if r1.1.1 ≠ 0 then
  some (((⟨0, 0, 0, 0, 0, 0, 0, 0, 0, 0, 0⟩ : LayV), r1.1.1, ()), (()))
 else
 some ((({ y0 with sleepers := wi (4 + y0.heap), epochs := wi ((wi (4 + y0.heap)) + y0.classes), bitmaps := wi ((wi ((wi (4 + y0.heap)) + y0.classes)) + y0.workers), queues := wi ((wi ((wi ((wi (4 + y0.heap)) + y0.classes)) + y0.workers)) + y0.workers), table := wi ((wi ((wi ((wi ((wi (4 + y0.heap)) + y0.classes)) + y0.workers)) + y0.workers)) + (wi ((wi (y0.workers * y0.levels)) * (wi (2 + y0.deque))))) } : LayV), 0, ()), (()))
noncomputable abbrev aj7 : Con SR1 := ⟨41, [.val 13], [.val 24, .sh sI_], fun x => ahT x.1⟩
theorem amY : CO Tryz.prog aj7 := aar aaq Tryz.func41 [alb] ⟨aol, trivial⟩ [] trivial (fun _ => []) [] fun x => by kernel_rfl
noncomputable def ajX (y0 : Int) : Option ((MemV × Unit) × (Unit)) :=
 if (if 131072 < (if y0 < 0 then 0 else y0) then 131072 else (if y0 < 0 then 0 else y0)) = (if 131072 < (if y0 < 0 then 0 else y0) then 131072 else (if y0 < 0 then 0 else y0)) then
  if 0 ≤ (if 131072 < (if y0 < 0 then 0 else y0) then 131072 else (if y0 < 0 then 0 else y0)) ∧ (if 131072 < (if y0 < 0 then 0 else y0) then 131072 else (if y0 < 0 then 0 else y0)) ≤ 1099511627776 then
   some (((⟨List.replicate ((if 131072 < (if y0 < 0 then 0 else y0) then 131072 else (if y0 < 0 then 0 else y0)) : Int).toNat (0 : Int), ⟨0, 0, 0, 0⟩, 0⟩ : MemV), ()), (()))
  else none
 else none
noncomputable abbrev ajW : Con SR1 := ⟨60, [.sh sI_], [.sh (.own 9)], fun x => ajX x.1⟩
theorem amT : CO Tryz.prog ajW := aar aaq Tryz.func60 [] trivial [] trivial (fun _ => []) [] fun x => by kernel_rfl
noncomputable def al3  : Option ((ClkV × Unit) × (Unit)) :=
 some (((⟨0, 0⟩ : ClkV), ()), (()))
noncomputable abbrev ala : Con SR1 := ⟨61, [], [.sh (.own 25)], fun x => al3 ⟩
theorem aoi : CO Tryz.prog ala := aar aaq Tryz.func61 [] trivial [] trivial (fun _ => []) [] fun x => by kernel_rfl
noncomputable def afi (y0 : Int) : Option ((EnvP × Unit) × (Unit)) :=
 (ajX y0).bind fun r1 =>
 (al3).bind fun r2 =>
 some (((⟨⟨0, 0, 0, 0, 0, 0, 0, 0, 0, [], []⟩, ⟨0, 0, 0, 0, 0, 0, 0, 0, 0, 0, 0⟩, r1.1.1, r2.1.1, [], []⟩ : EnvP), ()), (()))
noncomputable abbrev ahN : Con SR1 := ⟨42, [.sh sI_], [.sh (.own 27)], fun x => afi x.1⟩
theorem akJ : CO Tryz.prog ahN := aar aaq Tryz.func42 [ajW, ala] ⟨amT, aoi, trivial⟩ [] trivial (fun _ => []) [] fun x => by kernel_rfl
noncomputable def aa6 (r : CodV) (k : Int) : Option ((Int × Unit) × (CodV × Unit)) :=
 if r.at_ < ((r.inn.length : Nat) : Int) then
  if 0 ≤ r.at_ ∧ r.at_ < ((r.inn.length : Nat) : Int) then
   if k ≠ 0 then
   some (((Int.tmod (wi (ac6 r.inn r.at_)) k), ()), (({ r with at_ := wi (r.at_ + 1) } : CodV), ()))
   else none
  else none
 else
 some ((0, ()), (({ r with at_ := wi (r.at_ + 1) } : CodV), ()))
noncomputable abbrev akT : Con SR1 := ⟨58, [.ref 19, .sh sI_], [.sh sI_], fun x => aa6 x.1 x.2.1⟩
theorem anM : CO Tryz.prog akT := aar aaq Tryz.func58 [] trivial [] trivial (fun _ => []) [] fun x => by kernel_rfl
noncomputable def aoK (b : List Int) : Option ((Cfg × Unit) × (Unit)) :=
 (aa6 (⟨b, [], 0, false⟩ : CodV) 4).bind fun r1 =>
 (aa6 r1.2.1 4).bind fun r2 =>
 (aa6 r2.2.1 (if wi (1 + r2.1.1) < 3 then wi (1 + r2.1.1) else 3)).bind fun r3 =>
 (aa6 r3.2.1 12).bind fun r4 =>
 (aa6 r4.2.1 4).bind fun r5 =>
 (aa6 r5.2.1 4).bind fun r6 =>
 (aa6 r6.2.1 (wi (1 + r5.1.1))).bind fun r7 =>
 (aa6 r7.2.1 6).bind fun r8 =>
 (aa6 r8.2.1 8).bind fun r9 =>
 (aa6 r9.2.1 4).bind fun r10 =>
 (lpF (σ := Int × CodV × Cfg × Unit) (β := Int × CodV × Cfg × Unit) (fun self13 x11 =>
  if x11.1 < (wi (1 + r10.1.1)) then
   (aa6 x11.2.1 6).bind fun r14 =>
   (lpF (σ := List Ins × Int × CodV × Unit) (β := List Ins × Int × CodV × Unit) (fun self17 x15 =>
   if 0 < x15.2.1 then
   (aa6 x15.2.2.1 3).bind fun r18 =>
   if r18.1.1 = 0 then
   (aa6 r18.2.1 4).bind fun r19 =>
   if (((x15.1.length + ([(⟨r18.1.1, wi (1 + r19.1.1), 0⟩ : Ins)] : List Ins).length : Nat)) : Int) < 1000000000000 then
   self17 (x15.1 ++ ([(⟨r18.1.1, wi (1 + r19.1.1), 0⟩ : Ins)]), wi (x15.2.1 - 1), r19.2.1, ())
   else none
   else
   if r18.1.1 = 1 then
   (aa6 r18.2.1 (wi (1 + r10.1.1))).bind fun r20 =>
   (aa6 r20.2.1 x11.2.2.1.levels).bind fun r21 =>
   if (((x15.1.length + ([(⟨r18.1.1, r20.1.1, r21.1.1⟩ : Ins)] : List Ins).length : Nat)) : Int) < 1000000000000 then
   self17 (x15.1 ++ ([(⟨r18.1.1, r20.1.1, r21.1.1⟩ : Ins)]), wi (x15.2.1 - 1), r21.2.1, ())
   else none
   else
   (aa6 r18.2.1 4).bind fun r22 =>
   if (((x15.1.length + ([(⟨r18.1.1, r22.1.1, 0⟩ : Ins)] : List Ins).length : Nat)) : Int) < 1000000000000 then
   self17 (x15.1 ++ ([(⟨r18.1.1, r22.1.1, 0⟩ : Ins)]), wi (x15.2.1 - 1), r22.2.1, ())
   else none
   else
   some (x15.1, x15.2.1, x15.2.2.1, ())
   ) 18446744073709551616 ([], r14.1.1, r14.2.1, ())).bind fun z16 =>
   if (((x11.2.2.1.progs.length + ([z16.1] : List (List Ins)).length : Nat)) : Int) < 100000000000 then
   self13 (wi (x11.1 + 1), z16.2.2.1, ({ x11.2.2.1 with progs := x11.2.2.1.progs ++ ([z16.1]) } : Cfg), ())
   else none
  else
  some (x11.1, x11.2.1, x11.2.2.1, ())
 ) 18446744073709551616 (0, r10.2.1, (⟨wi (1 + r1.1.1), wi (1 + r2.1.1), wi (1 + r3.1.1), wi (1 + r4.1.1), wi (1 + r5.1.1), wi (1 + r6.1.1), wi (1 + r7.1.1), r8.1.1, wi (1 + r9.1.1), [], []⟩ : Cfg), ())).bind fun z12 =>
 (aa6 z12.2.1 6).bind fun r23 =>
 (lpF (σ := Int × CodV × Cfg × Unit) (β := Int × CodV × Cfg × Unit) (fun self26 x24 =>
  if 0 < x24.1 then
   (aa6 x24.2.1 (wi (1 + r10.1.1))).bind fun r27 =>
   (aa6 r27.2.1 x24.2.2.1.levels).bind fun r28 =>
   (aa6 r28.2.1 16).bind fun r29 =>
   if (((x24.2.2.1.subs.length + ([(⟨r27.1.1, r28.1.1, r29.1.1⟩ : Sub)] : List Sub).length : Nat)) : Int) < 1000000000000 then
   self26 (wi (x24.1 - 1), r29.2.1, ({ x24.2.2.1 with subs := x24.2.2.1.subs ++ ([(⟨r27.1.1, r28.1.1, r29.1.1⟩ : Sub)]) } : Cfg), ())
   else none
  else
  some (x24.1, x24.2.1, x24.2.2.1, ())
 ) 18446744073709551616 (r23.1.1, r23.2.1, z12.2.2.1, ())).bind fun z25 =>
 some ((z25.2.2.1, ()), (()))
noncomputable abbrev akU : Con SR1 := ⟨40, [.sh (.ro 17)], [.val 13], fun x => aoK x.1⟩
theorem anN : CO Tryz.prog akU := aar aaq Tryz.func40 [akT] ⟨anM, trivial⟩ [] trivial (fun _ => []) [(12, .loop [.rg 6 sI_, .rg 3 (.own 19), .rg 4 (.own 20)] 18446744073709551616 0), (16, .loop [.rg 7 (.row 3), .rg 8 sI_, .rg 3 (.own 19)] 18446744073709551616 2), (29, .loop [.rg 10 sI_, .rg 3 (.own 19), .rg 4 (.own 20)] 18446744073709551616 5)] fun x => by kernel_rfl
noncomputable def aqX (b : List Int) : Option ((Cfg × Unit) × (Unit)) :=
 (aoK b).bind fun r1 =>
 some ((r1.1.1, ()), (()))
noncomputable abbrev amZ : Con SR1 := ⟨20, [.sh (.ro 17)], [.val 13], fun x => aqX x.1⟩
theorem apJ : CO Tryz.prog amZ := aar aaq Tryz.func20 [akU] ⟨anN, trivial⟩ [] trivial (fun _ => []) [] fun x => by kernel_rfl
noncomputable def aeV (y0 : Cfg) : Option ((EnvP × Int × Unit) × (Unit)) :=
 (ahT y0).bind fun r1 =>
 if r1.1.2.1 ≠ 0 then
  none
 else
 (aoV r1.1.1).bind fun r2 =>
 (afi r2.1.1).bind fun r3 =>
 (aeg y0).bind fun r4 =>
 if r1.1.1.workers = r1.1.1.workers then
  if r1.1.1.levels = r1.1.1.levels then
   if r1.1.1.classes = r1.1.1.classes then
   if r1.1.1.tasks = r1.1.1.tasks then
   if r1.1.1.deque = r1.1.1.deque then
   if r1.1.1.heap = r1.1.1.heap then
   if r1.1.1.sleepers = r1.1.1.sleepers then
   if r1.1.1.epochs = r1.1.1.epochs then
   if r1.1.1.bitmaps = r1.1.1.bitmaps then
   if r1.1.1.queues = r1.1.1.queues then
   if r1.1.1.table = r1.1.1.table then
   if r1.1.1.workers = r1.1.1.workers then
   if r1.1.1.levels = r1.1.1.levels then
   if r1.1.1.classes = r1.1.1.classes then
   if r1.1.1.tasks = r1.1.1.tasks then
   if r1.1.1.deque = r1.1.1.deque then
   if r1.1.1.heap = r1.1.1.heap then
   if r1.1.1.sleepers = r1.1.1.sleepers then
   if r1.1.1.epochs = r1.1.1.epochs then
   if r1.1.1.bitmaps = r1.1.1.bitmaps then
   if r1.1.1.queues = r1.1.1.queues then
   if r1.1.1.table = r1.1.1.table then
   (lpF (σ := Int × EnvP × Unit) (β := Int × EnvP × Unit) (fun self7 x5 =>
   if x5.1 < y0.tasks then
   if (((x5.2.1.recs.length + ([(⟨0, (-1), 0, 0, (-1), [], false⟩ : RecP)] : List RecP).length : Nat)) : Int) < 100000000000 then
   self7 (wi (x5.1 + 1), ({ x5.2.1 with recs := x5.2.1.recs ++ ([(⟨0, (-1), 0, 0, (-1), [], false⟩ : RecP)]) } : EnvP), ())
   else none
   else
   some (x5.1, x5.2.1, ())
   ) 18446744073709551616 (0, ({ r3.1.1 with c := r4.1.1, l := r1.1.1 } : EnvP), ())).bind fun z6 =>
   some ((z6.2.1, 0, ()), (()))
   else none
   else none
   else none
   else none
   else none
   else none
   else none
   else none
   else none
   else none
   else none
   else none
   else none
   else none
   else none
   else none
   else none
   else none
   else none
   else none
  else none
 else none
noncomputable abbrev aiN : Con SR1 := ⟨21, [.val 13], [.sh (.own 27), .sh sI_], fun x => aeV x.1⟩
theorem alM : CO Tryz.prog aiN := aar aaq Tryz.func21 [aj7, aoU, ahN, ahW] ⟨amY, aqE, akJ, akL, trivial⟩ [] trivial (fun _ => []) [(7, .loop [.rg 29 sI_, .rg 6 (.own 27)] 18446744073709551616 0)] fun x => by kernel_rfl
end
section
open Go Go.RowKit
set_option maxRecDepth 100000
end
section
open Go Go.RowKit
inductive Rs (σ : Type) where
  | go (s : σ)
  | fin (c v : Int)
inductive OPushS where
  | l1 | l2 (b : Int) | l3 (b : Int) | l4 (b : Int)
inductive OPopS where
  | l1 | l2 (b : Int) | l3 (b t : Int) | l4 (b t : Int) | l5 (b t : Int) | l6 (b t : Int) | l7 (b t : Int) | l8 (b t : Int) | l9 (b t : Int)
inductive StealS where
  | l1 | l2 (t : Int) | l3 (t : Int) | l4 (t v : Int)
inductive ResetS where
  | l1 | l2 | l3 (b : Int) | l4 (b : Int)
inductive PublishS where
  | l1 | l2 | l3
inductive InsertS where
  | l1 | l2 (n : Int) | l3 (n i k x : Int) | l4 (n i k x : Int) | l5 (n i k x : Int) | l6 (n i k x : Int)
inductive RemoveS where
  | l1 | l2 (n : Int) | l3 (n x : Int) | l4 (n x y : Int) | l5 (n i c x y z : Int) | l6 (n i c x y z : Int) | l7 (n i c x y z : Int) | l8 (n i c x y z : Int)
inductive WakeS where
  | l1 (j : Int) | l2 (j v : Int) | l3 (j v : Int)
inductive SleepS where
  | l1 | l2 (ep : Int) | l3 (ep : Int) | l4 (ep v : Int) | l5 (ep v s : Int) | l6 (ep v s : Int) | l7 (ep v s : Int)
inductive ProbeS where
  | new | run (start next : Int) (bm : B16)
inductive RaiseS where
  | l1 (q : Int) | l2 (q : Int)
inductive LPushS where
  | new | push (s : OPushS) | set
inductive LPopS where
  | l1 (v : Int) | l2 (v : Int) (s : OPopS) | l3 (v : Int) (s : ResetS)
inductive WalkS where
  | l1 (t : Int) | raise (t : Int) (s : RaiseS) | l2 (t : Int) | push (t : Int) (s : LPushS) | l4 (t : Int)
inductive EnterS where
  | l1 | l2 | l3 | l4 (v : Int) (s : LPushS)
inductive SweepS where
  | l1 | l2 | l3 | l4 (q : Int) | l5 (q : Int) | l6 (q : Int) (s : LPushS)
inductive TakeS where
  | pop (s : LPopS) | claim (t : Int)
inductive DrainC where
  | l1 | l2 | l3 (s : RemoveS) | l4 | l5 (s : LPushS) | l6 | l7 (s : WakeS)
structure DrainS where
  x : Int
  direct : Bool
  p : Int
  last : Int
  count : Int
  c : DrainC
inductive RunC where
  | next | s2 (s : PublishS) | s3 (s : LPushS) | s4 (s : WakeS) | s5 | j2 | j3 | j4 | j5 (s : WalkS) | j6 | j7 | f2 | f3 | f4 (s : EnterS) | f5 (v : Int) (s : WakeS) | f6
structure RunS where
  stack : List Int
  id : Int
  child : Int
  level : Int
  waiter : Int
  c : RunC
inductive WorkC where
  | top | t1 (t : Int) (s : SweepS) | t2 (s : TakeS) | t3 (s : DrainS) | t4 (s : ProbeS) | t5 (s : StealS) | t6 | t7 (s : RunS) | t8 (s : SleepS) | t9 (s : ResetS)
structure WorkS where
  cursor : Int
  victim : Int
  level : Int
  x : Int
  c : WorkC
inductive ClieC where
  | n1 | a1 | n2 | n3 | n4 | n5 | n6 | a6 (s : InsertS) | n7 | n8 | n9 | a9 (s : WakeS)
structure ClieS where
  i : Int
  id : Int
  acc : Bool
  c : ClieC
def MemV.gt (m : MemV) (a : Int) : Int := if 0 ≤ a ∧ a < (m.cells.length : Int) then aeh m.cells a else 0
def MemV.pt (m : MemV) (k a v : Int) : MemV := if 0 ≤ a ∧ a < (m.cells.length : Int) then ⟨m.cells.set a.toNat v, ⟨k, a, aeh m.cells a, v⟩, wi (m.count + 1)⟩ else m
def MemV.hit (m : MemV) (a o : Int) : Bool := decide ((0 ≤ a ∧ a < (m.cells.length : Int)) ∧ aeh m.cells a = o)
def MemV.cas (m : MemV) (a o v : Int) : MemV := m.pt 3 a (if m.gt a = o then v else m.gt a)
abbrev EnvP.gt (e : EnvP) (a : Int) : Int := e.m.gt a
def EnvP.pt (e : EnvP) (k a v : Int) : EnvP := { e with m := e.m.pt k a v }
def EnvP.lk (e : EnvP) (a : Int) : EnvP := { e with m := e.m.pt 1 a (e.m.gt a) }
abbrev EnvP.hit (e : EnvP) (a o : Int) : Bool := e.m.hit a o
def EnvP.cas (e : EnvP) (a o v : Int) : EnvP := { e with m := e.m.cas a o v }
def EnvP.em (e : EnvP) (k w t o l : Int) : EnvP := { e with evs := e.evs ++ [⟨k, w, t, o, l⟩] }
def EnvP.rc (e : EnvP) (t : Int) : RecP := aab e.recs t
def EnvP.pr (e : EnvP) (t : Int) (r : RecP) : EnvP := { e with recs := e.recs.set t.toNat r }
def IsT (e : EnvP) (t : Int) : Prop := 0 ≤ t ∧ t < e.c.tasks
instance (e : EnvP) (t : Int) : Decidable (IsT e t) := inferInstanceAs (Decidable (_ ∧ _))
def atF (e : EnvP) (t v : Int) : Prop := (0 ≤ t ∧ t < e.c.tasks) ∧ 0 ≤ v ∧ v < e.c.levels
instance (e : EnvP) (t v : Int) : Decidable (atF e t v) := inferInstanceAs (Decidable (_ ∧ _))
def szP (b t : Int) : Int := wi (wu (b - t))
def avi (q : QV) (i : Int) : Int := if q.cap < 1 then -1 else wi (q.ring + wi (Int.tmod i (wu q.cap)))
def awT (n : Int) : Int := if n < 0 then 0 else if 63 < n then 0 else wu (1 * 2 ^ min (wu n).toNat IntKind.u64.bits)
def axs (a n : Int) : Int := if n < 1 then 0 else if Int.tmod a n < 0 then wi (Int.tmod a n + n) else Int.tmod a n
def atP (i n a w : Int) : Int := if i < 0 then -1 else if n ≤ i then -1 else wi (a + wi (i * w))
def ant (l : LayV) (t f : Int) : Int := atP t l.tasks (wi (l.table + f)) 5
def acO (l : LayV) (t : Int) : Int := ant l t 0
def afD (l : LayV) (t : Int) : Int := ant l t 1
def afl (l : LayV) (t : Int) : Int := ant l t 2
def agN (l : LayV) (t : Int) : Int := ant l t 3
def ap8 (l : LayV) (t : Int) : Int := ant l t 4
def arj (l : LayV) (w : Int) : Int := atP w l.workers l.epochs 1
def amq (l : LayV) (k : Int) : Int := atP k l.classes l.sleepers 1
def akx (l : LayV) (w : Int) : Int := atP w l.workers l.bitmaps 1
def adz (l : LayV) (w v : Int) : QV :=
  if atP w l.workers l.queues (wi (l.levels * wi (2 + l.deque))) < 0 then ⟨-1, -1, -1, 0⟩
  else if atP v l.levels (atP w l.workers l.queues (wi (l.levels * wi (2 + l.deque)))) (wi (2 + l.deque)) < 0 then ⟨-1, -1, -1, 0⟩
  else ⟨atP v l.levels (atP w l.workers l.queues (wi (l.levels * wi (2 + l.deque)))) (wi (2 + l.deque)), wi (atP v l.levels (atP w l.workers l.queues (wi (l.levels * wi (2 + l.deque)))) (wi (2 + l.deque)) + 1), wi (atP v l.levels (atP w l.workers l.queues (wi (l.levels * wi (2 + l.deque)))) (wi (2 + l.deque)) + 2), l.deque⟩
def arv (l n c : Int) : Int := if n < 1 then 0 else if 64 < n then 0 else if c < 1 then 0 else if 8 < c then 0 else if l < 0 then 0 else if n ≤ l then 0 else wi (Int.tdiv (wi (l * c)) n)
def agT (q : QV) (v : Int) (e : EnvP) : OPushS → Rs OPushS × EnvP
  | .l1 => (.go (.l2 (e.gt q.bottom)), e.lk q.bottom)
  | .l2 b => (if q.cap ≤ szP b (e.gt q.top) then .fin 3 0 else .go (.l3 b), e.lk q.top)
  | .l3 b => (.go (.l4 b), e.pt 2 (avi q b) (wu v))
  | .l4 b => (.fin 0 0, e.pt 2 q.bottom (wu (b + 1)))
def axh (a b : Int) (e : EnvP) : EnvP := e.pt 4 a (orU (e.gt a) (awT b))
def alg (e : EnvP) : EnvP := e.pt 6 0 (wu (e.gt 0 + 1))
def afc (t v : Int) (e : EnvP) (s : PublishS) : Rs PublishS × EnvP :=
  if ¬ IsT e t then (.fin 4 0, e)
  else match s with
    | .l1 => (.go .l2, e.pt 2 (afD e.l t) (wu v))
    | .l2 => (.go .l3, e.pt 2 (ap8 e.l t) (wu e.k.now))
    | .l3 => (.fin 0 0, e.pt 2 (acO e.l t) 1)
def akp (t : Int) (e : EnvP) : Bool := e.hit (acO e.l t) 1
def anc (w t : Int) (e : EnvP) : EnvP :=
  if akp t e = true then
    if (e.rc t).started = true then (e.cas (acO e.l t) 1 2).em 9 w t 0 0 else ((e.cas (acO e.l t) 1 2).pr t { e.rc t with started := true }).em 5 w t 0 0
  else (e.cas (acO e.l t) 1 2).em 15 w t 0 0
def amj (v j : Int) (e : EnvP) : Int := if e.c.classes < 1 then -1 else amq e.l (axs (wi (arv v e.c.levels e.c.classes + j)) e.c.classes)
noncomputable def axv [Tb] (x : Int) : Int := if x = 0 then -1 else tzV x
noncomputable def anr [Tb] (w v : Int) (e : EnvP) : WakeS → Rs WakeS × EnvP
  | .l1 j => (if e.gt (amj v j e) ≠ 0 then .go (.l2 j (axv (e.gt (amj v j e)))) else if e.c.classes ≤ wi (j + 1) then .fin 2 0 else .go (.l1 (wi (j + 1))), e.lk (amj v j e))
  | .l2 j x => (if ar1 (e.gt (amj v j e)) (awT x) = 0 then .fin 4 0 else .go (.l3 j x), e.pt 5 (amj v j e) (ar1 (e.gt (amj v j e)) (avv (awT x))))
  | .l3 _ x => (.fin 1 x, (e.pt 6 (arj e.l x) (wu (e.gt (arj e.l x) + 1))).em 18 w 0 x 0)
def af3 (w t v : Int) (e : EnvP) (s : RaiseS) : Rs RaiseS × EnvP :=
  if ¬ atF e t v then (.fin 4 0, e)
  else match s with
    | .l1 _ => (if v ≤ wi (e.gt (afD e.l t)) then .fin 0 0 else .go (.l2 (e.gt (afD e.l t))), e.lk (afD e.l t))
    | .l2 q => if e.hit (afD e.l t) q = true then (.fin 1 0, (e.cas (afD e.l t) q (wu v)).em 11 w t 0 v) else (.go (.l1 q), e.cas (afD e.l t) q (wu v))
def B16.at (b : B16) (i : Int) : Int :=
  if i = 15 then b.b15 else if i = 14 then b.b14 else if i = 13 then b.b13 else if i = 12 then b.b12 else if i = 11 then b.b11 else if i = 10 then b.b10 else if i = 9 then b.b9 else if i = 8 then b.b8
  else if i = 7 then b.b7 else if i = 6 then b.b6 else if i = 5 then b.b5 else if i = 4 then b.b4 else if i = 3 then b.b3 else if i = 2 then b.b2 else if i = 1 then b.b1 else b.b0
def B16.put (b : B16) (i v : Int) : B16 :=
  if i = 15 then { b with b15 := v } else if i = 14 then { b with b14 := v } else if i = 13 then { b with b13 := v } else if i = 12 then { b with b12 := v } else if i = 11 then { b with b11 := v } else if i = 10 then { b with b10 := v }
  else if i = 9 then { b with b9 := v } else if i = 8 then { b with b8 := v } else if i = 7 then { b with b7 := v } else if i = 6 then { b with b6 := v } else if i = 5 then { b with b5 := v } else if i = 4 then { b with b4 := v }
  else if i = 3 then { b with b3 := v } else if i = 2 then { b with b2 := v } else if i = 1 then { b with b1 := v } else { b with b0 := v }
def ayt : B16 := ⟨0, 0, 0, 0, 0, 0, 0, 0, 0, 0, 0, 0, 0, 0, 0, 0⟩
def aep (w v x : Int) (e : EnvP) : LPushS → Rs LPushS × EnvP
  | .new => match agT (adz e.l w v) x e .l1 with
    | (.go s, e') => (.go (.push s), e')
    | (.fin c _, e') => (if c = 3 then .fin 3 0 else .go .set, e')
  | .push s => match agT (adz e.l w v) x e s with
    | (.go s, e') => (.go (.push s), e')
    | (.fin c _, e') => (if c = 3 then .fin 3 0 else .go .set, e')
  | .set => (.fin 0 0, axh (akx e.l w) v e)
def ahc (w v : Int) (e : EnvP) : WalkS → Rs WalkS × EnvP
  | .l1 t => if ¬ atF e t v then (.fin 4 0, e) else match af3 w t v e (.l1 0) with
    | (.go s, e') => (.go (.raise t s), e')
    | (.fin c _, e') => (.go (if c = 1 then .l2 t else .l4 t), e')
  | .raise t s => match af3 w t v e s with
    | (.go s, e') => (.go (.raise t s), e')
    | (.fin c _, e') => (.go (if c = 1 then .l2 t else .l4 t), e')
  | .l2 t => (.go (if e.gt (acO e.l t) = 1 then .push t .new else .l4 t), e.lk (acO e.l t))
  | .push t s => match aep w v t e s with
    | (.go s, e') => (.go (.push t s), e')
    | (.fin c _, e') => (.go (.l4 t), if c = 3 then e'.em 19 w t 0 v else e')
  | .l4 t => (if e.gt (agN e.l t) = 0 then .fin 0 0 else .go (.l1 (wi (wu (e.gt (agN e.l t) - 1)))), e.lk (agN e.l t))
def aiP (w t : Int) (e : EnvP) : EnterS → Rs EnterS × EnvP
  | .l1 => if ¬ IsT e t then (.fin 4 0, e) else (.go .l2, e.pt 2 (ap8 e.l t) (wu e.k.now))
  | .l2 => (.go .l3, e.pt 2 (acO e.l t) 1)
  | .l3 => (.go (.l4 (wi (e.gt (afD e.l t))) .new), e.lk (afD e.l t))
  | .l4 v s => match aep w v t e s with
    | (.go s, e') => (.go (.l4 v s), e')
    | (.fin c _, e') => (.fin c v, e')
def aaC (l : List Int) : Int := l.getLast?.getD 0
def aj6 (r : RunS) (e : EnvP) : Rs RunS × EnvP := (if r.stack.length = 1 then .fin 0 0 else .go { r with stack := r.stack.dropLast, c := .next }, e)
def aey (x : RecP) (i : Ins) : RecP :=
  if wi ((if x.left = 0 then i.a else x.left) - 1) = 0 then { x with left := wi ((if x.left = 0 then i.a else x.left) - 1), pc := wi (x.pc + 1) } else { x with left := wi ((if x.left = 0 then i.a else x.left) - 1) }
def EnvP.prog (e : EnvP) (x : RecP) : List Ins := if x.prog < 0 ∨ (e.c.progs.length : Int) ≤ x.prog then [] else atL [] e.c.progs x.prog
def ayf (p t : Int) : RecP := ⟨p, t, 0, 0, -1, [], false⟩
def apG (w : Int) (e : EnvP) (r : RunS) (t : Int) (x : RecP) (p : List Ins) : Rs RunS × EnvP :=
  if x.waiting ≠ -1 then (.go r, (e.pt 2 (agN e.l t) 0).pr t { x with waiting := -1 })
  else if x.pc < 0 ∨ (p.length : Int) ≤ x.pc then (.go { r with c := .f2 }, e.pt 2 (acO e.l t) 4)
  else if (aaY p x.pc).op = 0 then (.go r, e.pr t (aey x (aaY p x.pc)))
  else if (aaY p x.pc).op = 1 then
    if IsT e (wi (e.gt 0)) then (.go { r with id := wi (e.gt 0), level := (aaY p x.pc).b, c := .s2 .l1 }, ((alg e).pr t { x with pc := wi (x.pc + 1), kids := x.kids ++ [wi (e.gt 0)] }).pr (wi (e.gt 0)) (ayf (aaY p x.pc).a t))
    else (.go r, ((alg e).pr t { x with pc := wi (x.pc + 1), kids := x.kids ++ [-1] }).em 4 w t 0 0)
  else if (aaY p x.pc).a < 0 ∨ (x.kids.length : Int) ≤ (aaY p x.pc).a ∨ aae x.kids (aaY p x.pc).a = -1 then (.go r, e.pr t { x with pc := wi (x.pc + 1) })
  else (.go { r with child := aae x.kids (aaY p x.pc).a, c := .j2 }, (e.pt 2 (agN e.l t) (wu (wi (aae x.kids (aaY p x.pc).a + 1)))).pr t { x with pc := wi (x.pc + 1), waiting := aae x.kids (aaY p x.pc).a })
noncomputable def ayb [Tb] (w : Int) (e : EnvP) (r : RunS) (t : Int) : Rs RunS × EnvP :=
  match r.c with
  | .next => apG w e r t (e.rc t) (e.prog (e.rc t))
  | .s2 s => match afc r.id r.level e s with
    | (.go s, e') => (.go { r with c := .s2 s }, e')
    | (.fin _ _, e') => (.go { r with c := .s3 .new }, e'.em 3 w r.id t r.level)
  | .s3 s => match aep w r.level r.id e s with
    | (.go s, e') => (.go { r with c := .s3 s }, e')
    | (.fin c _, e') => (.go { r with c := if c = 3 then .s5 else .s4 (.l1 0) }, e')
  | .s4 s => match anr w r.level e s with
    | (.go s, e') => (.go { r with c := .s4 s }, e')
    | (.fin _ _, e') => (.go { r with c := .next }, e')
  | .s5 => (.go (if akp r.id e = true then { r with stack := r.stack ++ [r.id], c := .next } else { r with c := .next }), anc w r.id e)
  | .j2 => (.go { r with c := .j3 }, e.pt 2 (acO e.l t) 3)
  | .j3 => if e.hit (afl e.l r.child) 0 = true then (.go { r with c := .j4 }, (e.cas (afl e.l r.child) 0 (wu (wi (t + 1)))).em 6 w t r.child 0) else (.go { r with c := .j6 }, e.cas (afl e.l r.child) 0 (wu (wi (t + 1))))
  | .j4 => (.go { r with level := wi (e.gt (afD e.l t)), c := .j5 (.l1 r.child) }, e.lk (afD e.l t))
  | .j5 s => match ahc w r.level e s with
    | (.go s, e') => (.go { r with c := .j5 s }, e')
    | (.fin _ _, e') => aj6 r (e'.em 7 w t 0 r.level)
  | .j6 => (.go { r with c := .j7 }, e.pt 2 (acO e.l t) 2)
  | .j7 => (.go { r with c := .next }, ((e.pt 2 (agN e.l t) 0).pr t { e.rc t with waiting := -1 }).em 8 w t r.child 0)
  | .f2 => if e.hit (afl e.l t) 0 = true then aj6 r ((e.cas (afl e.l t) 0 4294967296).em 10 w t 0 0) else (.go { r with c := .f3 }, (e.cas (afl e.l t) 0 4294967296).em 10 w t 0 0)
  | .f3 => if IsT e (wi (wi (e.gt (afl e.l t)) - 1)) then (.go { r with waiter := wi (wi (e.gt (afl e.l t)) - 1), c := .f4 .l1 }, e.lk (afl e.l t)) else aj6 { r with waiter := wi (wi (e.gt (afl e.l t)) - 1) } (e.lk (afl e.l t))
  | .f4 s => match aiP w r.waiter e s with
    | (.go s, e') => (.go { r with c := .f4 s }, e')
    | (.fin c v, e') => (.go { r with c := if c = 3 then .f6 else .f5 v (.l1 0) }, e')
  | .f5 v s => match anr w v e s with
    | (.go s, e') => (.go { r with c := .f5 v s }, e')
    | (.fin _ _, e') => aj6 r e'
  | .f6 => if akp r.waiter e = true then (.go { r with stack := r.stack.dropLast ++ [r.waiter], c := .next }, anc w r.waiter e) else aj6 r (anc w r.waiter e)
noncomputable def asi [Tb] (w : Int) (e : EnvP) (r : RunS) : Rs RunS × EnvP := if ¬ IsT e (aaC r.stack) then (.fin 4 0, e) else ayb w e r (aaC r.stack)
end
section
open Go Go.RowKit
set_option maxRecDepth 100000
theorem arF {α : Type} {d : α} {xs : List α} {a : Int} {x : α} (h : 0 ≤ a ∧ a < (xs.length : Int)) : atL d (xs.set a.toNat x) a = x := by
  have : a.toNat < xs.length := by omega
  simp [atL, this]
theorem ag8 {cs : List Int} {a x : Int} (h : 0 ≤ a ∧ a < (cs.length : Int)) : aeh (cs.set a.toNat x) a = x := arF h
theorem avF {x : Int} (h : ¬ x < 1) (h2 : x ≤ 9223372036854775807) : wu x ≠ 0 := by
  simp only [wu, IntKind.wrap, IntKind.bits, IntKind.signed]
  simp
  omega
theorem axf (a : Int) : 0 ≤ wu a ∧ wu a ≤ 18446744073709551615 := by
  simp only [wu, IntKind.wrap, IntKind.bits, IntKind.signed]
  simp
  omega
section
variable {m : MemV} {a o v : Int}
theorem adU : abz m a = some ((m.gt a, ()), (m.pt 1 a (m.gt a), ())) := by
  unfold abz MemV.gt MemV.pt
  by_cases h : 0 ≤ a ∧ a < (m.cells.length : Int)
  · have h1 : ¬ a < 0 := by omega
    have h2 : ¬ ((m.cells.length : Nat) : Int) ≤ a := by omega
    simp only [h1, h2, h, and_self, if_true, if_false, List.length_set, ag8 h]
  · by_cases h1 : a < 0
    · simp only [h1, h, if_true, if_false]
    · have h2 : ((m.cells.length : Nat) : Int) ≤ a := by omega
      simp only [h1, h2, h, if_true, if_false]
theorem acz : aa0 m a v = some ((), (m.pt 2 a v, ())) := by
  unfold aa0 MemV.pt
  by_cases h : 0 ≤ a ∧ a < (m.cells.length : Int)
  · have h1 : ¬ a < 0 := by omega
    have h2 : ¬ ((m.cells.length : Nat) : Int) ≤ a := by omega
    simp only [h1, h2, h, and_self, if_true, if_false, List.length_set, ag8 h]
  · by_cases h1 : a < 0
    · simp only [h1, h, if_true, if_false]
    · have h2 : ((m.cells.length : Nat) : Int) ≤ a := by omega
      simp only [h1, h2, h, if_true, if_false]
theorem alG : amf m a o v = some ((m.hit a o, ()), (m.cas a o v, ())) := by
  unfold amf MemV.hit MemV.cas MemV.pt MemV.gt
  by_cases h : 0 ≤ a ∧ a < (m.cells.length : Int)
  · have h1 : ¬ a < 0 := by omega
    have h2 : ¬ ((m.cells.length : Nat) : Int) ≤ a := by omega
    by_cases hc : aeh m.cells a = o
    · simp only [h1, h2, h, hc, and_self, if_true, if_false, List.length_set, ag8 h]
    · simp only [h1, h2, h, hc, and_self, if_true, if_false, List.length_set, ag8 h, and_false]
  · by_cases h1 : a < 0
    · simp only [h1, h, if_true, if_false, false_and, decide_false]
    · have h2 : ((m.cells.length : Nat) : Int) ≤ a := by omega
      simp only [h1, h2, h, if_true, if_false, false_and, decide_false]
theorem av1 : pOr m a v = some ((m.gt a, ()), (m.pt 4 a (orU (m.gt a) v), ())) := by
  unfold pOr MemV.gt MemV.pt
  by_cases h : 0 ≤ a ∧ a < (m.cells.length : Int)
  · have h1 : ¬ a < 0 := by omega
    have h2 : ¬ ((m.cells.length : Nat) : Int) ≤ a := by omega
    simp only [h1, h2, h, and_self, if_true, if_false, List.length_set, ag8 h]
  · by_cases h1 : a < 0
    · simp only [h1, h, if_true, if_false]
    · have h2 : ((m.cells.length : Nat) : Int) ≤ a := by omega
      simp only [h1, h2, h, if_true, if_false]
theorem aqF : atp m a v = some ((m.gt a, ()), (m.pt 5 a (ar1 (m.gt a) v), ())) := by
  unfold atp MemV.gt MemV.pt
  by_cases h : 0 ≤ a ∧ a < (m.cells.length : Int)
  · have h1 : ¬ a < 0 := by omega
    have h2 : ¬ ((m.cells.length : Nat) : Int) ≤ a := by omega
    simp only [h1, h2, h, and_self, if_true, if_false, List.length_set, ag8 h]
  · by_cases h1 : a < 0
    · simp only [h1, h, if_true, if_false]
    · have h2 : ((m.cells.length : Nat) : Int) ≤ a := by omega
      simp only [h1, h2, h, if_true, if_false]
theorem an1 : av3 m a v = some ((m.gt a, ()), (m.pt 6 a (wu (m.gt a + v)), ())) := by
  unfold av3 MemV.gt MemV.pt
  by_cases h : 0 ≤ a ∧ a < (m.cells.length : Int)
  · have h1 : ¬ a < 0 := by omega
    have h2 : ¬ ((m.cells.length : Nat) : Int) ≤ a := by omega
    simp only [h1, h2, h, and_self, if_true, if_false, List.length_set, ag8 h]
  · by_cases h1 : a < 0
    · simp only [h1, h, if_true, if_false]
    · have h2 : ((m.cells.length : Nat) : Int) ≤ a := by omega
      simp only [h1, h2, h, if_true, if_false]
end
theorem aqA {a n : Int} : atn a n = some ((axs a n, ()), ()) := by
  unfold atn axs
  by_cases h : n < 1
  · rw [if_pos h, if_pos h]
  · rw [if_neg h, if_neg h, if_pos (show n ≠ 0 by omega)]
    split <;> rfl
theorem anY {n : Int} : arW n = some ((awT n, ()), ()) := by
  unfold arW awT
  rw [if_pos (axf n).1]
  split
  · rfl
  · split <;> rfl
theorem asx {q : QV} {i : Int} (h : q.cap ≤ 9223372036854775807) : anX q i = some ((avi q i, ()), ()) := by
  unfold anX avi
  by_cases h1 : q.cap < 1
  · rw [if_pos h1, if_pos h1]
  · rw [if_neg h1, if_neg h1, if_pos (avF h1 h)]
theorem asr {b t : Int} : anS b t = some ((szP b t, ()), ()) := rfl
theorem amL {i n a w : Int} : pAt i n a w = some ((atP i n a w, ()), ()) := by
  unfold pAt atP
  split
  · rfl
  · split <;> rfl
theorem ahC {l : LayV} {t f : Int} : amE l t f = some ((ant l t f, ()), ()) := by unfold amE; rw [amL]; rfl
theorem aea {l : LayV} {t : Int} : adA l t = some ((acO l t, ()), ()) := by unfold adA; rw [ahC]; rfl
theorem ahH {l : LayV} {t : Int} : aed l t = some ((afD l t, ()), ()) := by unfold aed; rw [ahC]; rfl
theorem amF {l : LayV} {t : Int} : ahG l t = some ((ap8 l t, ()), ()) := by unfold ahG; rw [ahC]; rfl
theorem ahA {l : LayV} {t : Int} : af7 l t = some ((agN l t, ()), ()) := by unfold af7; rw [ahC]; rfl
theorem alD {l : LayV} {t : Int} : ai6 l t = some ((afl l t, ()), ()) := by unfold ai6; rw [ahC]; rfl
theorem amH {l : LayV} {t : Int} : akX l t = some ((arj l t, ()), ()) := by unfold akX; rw [amL]; rfl
theorem aiM {l : LayV} {t : Int} : aeb l t = some ((amq l t, ()), ()) := by unfold aeb; rw [amL]; rfl
theorem akY {l : LayV} {t : Int} : afe l t = some ((akx l t, ()), ()) := by unfold afe; rw [amL]; rfl
theorem aqw {l : LayV} {w v : Int} : akW l w v = some ((adz l w v, ()), ()) := by
  unfold akW adz
  simp only [amL, Option.bind_some]
  split
  · rfl
  · split <;> rfl
theorem amI {l n c : Int} : amJ l n c = some ((arv l n c, ()), ()) := by
  unfold amJ arv
  by_cases h : n < 1
  · rw [if_pos h, if_pos h]
  · rw [if_neg h, if_neg h, if_pos (show n ≠ 0 by omega)]
    repeat' split
    all_goals rfl
theorem aqB [Tb] {x : Int} : aw0 x = some ((axv x, ()), ()) := by
  unfold aw0 axv
  split <;> rfl
theorem afd {e : EnvP} {v : Ev} (h : e.evs.length ≤ 999999999) : aei e v = some ((), ({ e with evs := e.evs ++ [v] }, ())) := by
  unfold aei
  rw [if_pos (by rw [List.length_singleton]; omega)]
@[reducible] def o0 : OutV := ⟨false, 0, 0⟩
@[reducible] def aoY (q : QV) (v : Int) : OPushS → OPushV
  | .l1 => ⟨o0, q, v, 1, 0⟩
  | .l2 b => ⟨o0, q, v, 2, b⟩
  | .l3 b => ⟨o0, q, v, 3, b⟩
  | .l4 b => ⟨o0, q, v, 4, b⟩
@[reducible] def axn (q : QV) : OPopS → OPopV
  | .l1 => ⟨o0, q, 1, 0, 0⟩
  | .l2 b => ⟨o0, q, 2, b, 0⟩
  | .l3 b t => ⟨o0, q, 3, b, t⟩
  | .l4 b t => ⟨o0, q, 4, b, t⟩
  | .l5 b t => ⟨o0, q, 5, b, t⟩
  | .l6 b t => ⟨o0, q, 6, b, t⟩
  | .l7 b t => ⟨o0, q, 7, b, t⟩
  | .l8 b t => ⟨o0, q, 8, b, t⟩
  | .l9 b t => ⟨o0, q, 9, b, t⟩
@[reducible] def ax8 (q : QV) : StealS → StealV
  | .l1 => ⟨o0, q, 1, 0, 0⟩
  | .l2 t => ⟨o0, q, 2, t, 0⟩
  | .l3 t => ⟨o0, q, 3, t, 0⟩
  | .l4 t v => ⟨o0, q, 4, t, v⟩
@[reducible] def avV (a b : Int) (q : QV) : ResetS → ResetV
  | .l1 => ⟨o0, a, b, q, 1, 0⟩
  | .l2 => ⟨o0, a, b, q, 2, 0⟩
  | .l3 x => ⟨o0, a, b, q, 3, x⟩
  | .l4 x => ⟨o0, a, b, q, 4, x⟩
@[reducible] def ahu (t v : Int) : PublishS → PublishV
  | .l1 => ⟨o0, t, v, 1⟩
  | .l2 => ⟨o0, t, v, 2⟩
  | .l3 => ⟨o0, t, v, 3⟩
@[reducible] def aup (w : Int) : RemoveS → RemoveV
  | .l1 => ⟨o0, w, 1, 0, 0, 0, 0, 0, 0⟩
  | .l2 n => ⟨o0, w, 2, n, 0, 0, 0, 0, 0⟩
  | .l3 n x => ⟨o0, w, 3, n, 0, 0, x, 0, 0⟩
  | .l4 n x y => ⟨o0, w, 4, n, 0, 0, x, y, 0⟩
  | .l5 n i c x y z => ⟨o0, w, 5, n, i, c, x, y, z⟩
  | .l6 n i c x y z => ⟨o0, w, 6, n, i, c, x, y, z⟩
  | .l7 n i c x y z => ⟨o0, w, 7, n, i, c, x, y, z⟩
  | .l8 n i c x y z => ⟨o0, w, 8, n, i, c, x, y, z⟩
@[reducible] def ans (w v : Int) : WakeS → WakeV
  | .l1 j => ⟨o0, w, v, 1, j, 0⟩
  | .l2 j x => ⟨o0, w, v, 2, j, x⟩
  | .l3 j x => ⟨o0, w, v, 3, j, x⟩
@[reducible] def aya (w : Int) : SleepS → SleepV
  | .l1 => ⟨o0, w, 1, 0, 0, 0⟩
  | .l2 ep => ⟨o0, w, 2, ep, 0, 0⟩
  | .l3 ep => ⟨o0, w, 3, ep, 0, 0⟩
  | .l4 ep v => ⟨o0, w, 4, ep, v, 0⟩
  | .l5 ep v s => ⟨o0, w, 5, ep, v, s⟩
  | .l6 ep v s => ⟨o0, w, 6, ep, v, s⟩
  | .l7 ep v s => ⟨o0, w, 7, ep, v, s⟩
@[reducible] def ayd (w : Int) : ProbeS → ProbeV
  | .new => ⟨o0, w, false, 0, 0, ayt⟩
  | .run s i bm => ⟨o0, w, true, s, i, bm⟩
@[reducible] def amB (w t v : Int) : RaiseS → RaiseV
  | .l1 q => ⟨o0, w, t, v, 1, q⟩
  | .l2 q => ⟨o0, w, t, v, 2, q⟩
def acS {σ X : Type} (og : X → OutV) (mk : σ → X) (res : Option ((Bool × Unit) × (X × EnvP × Unit))) (r : Rs σ × EnvP) : Prop :=
  match r with
  | (.go s, e) => res = some ((false, ()), (mk s, e, ()))
  | (.fin c v, e) => ∃ x, res = some ((true, ()), (x, e, ())) ∧ og x = ⟨true, c, v⟩
section
variable {σ X : Type} {og : X → OutV} {mk : σ → X} {a b : Option ((Bool × Unit) × (X × EnvP × Unit))} {r s : Rs σ × EnvP}
theorem acS.ite {c : Prop} [Decidable c] (h1 : c → acS og mk a r) (h2 : ¬ c → acS og mk b s) : acS og mk (if c then a else b) (if c then r else s) := by
  by_cases h : c
  · rw [if_pos h, if_pos h]; exact h1 h
  · rw [if_neg h, if_neg h]; exact h2 h
theorem acS.iteN {c : Bool} (h1 : c = true → acS og mk b r) (h2 : c = false → acS og mk a s) : acS og mk (if (!c) = true then a else b) (if c = true then r else s) := by
  cases c
  · exact h2 rfl
  · exact h1 rfl
theorem acY {c : Prop} [Decidable c] {x y : Rs σ} {e : EnvP} : ((if c then x else y), e) = if c then (x, e) else (y, e) := by split <;> rfl
theorem aq2 {c : Prop} [Decidable c] {x y : σ} : Rs.go (if c then x else y) = if c then Rs.go x else Rs.go y := by split <;> rfl
end
theorem ah2 {α β : Type} {c : Prop} [Decidable c] {x y : Option α} {f : α → Option β} : (if c then x else y).bind f = if c then x.bind f else y.bind f := by split <;> rfl
section
variable {e : EnvP}
theorem amN {q : QV} {v : Int} (hq : q.cap ≤ 9223372036854775807) (s : OPushS) : acS OPushV.o (aoY q v) (abU (aoY q v s) e) (agT q v e s) := by
  cases s <;> simp only [abU, aoY, agT, aaH, abi, o0, adU, acz, asr, asx hq, Option.bind_some, Bool.false_eq_true, if_true, if_false, reduceIte, Int.reduceEq, acY]
  all_goals repeat' first | with_reducible refine acS.ite (fun _ => ?_) fun _ => ?_ | with_reducible refine acS.iteN (fun _ => ?_) fun _ => ?_
  all_goals first | rfl | exact ⟨_, rfl, rfl⟩
theorem at9 {a b : Int} : ∃ x, abV ⟨o0, a, b⟩ e = some ((true, ()), (x, axh a b e, ())) ∧ x.o = ⟨true, 0, 0⟩ := by
  simp only [abV, aaH, abi, o0, av1, anY, Option.bind_some, Bool.false_eq_true, if_true, if_false]
  exact ⟨_, rfl, rfl⟩
theorem agc {t : Int} : ade e t = some ((decide (IsT e t), ()), (e, ())) := by
  unfold ade IsT
  by_cases h : 0 ≤ t
  · simp only [h, if_true, true_and]
  · simp only [h, if_false, false_and, decide_false]
theorem alR {t v : Int} : agn e t v = some ((decide (atF e t v), ()), (e, ())) := by
  unfold agn atF
  by_cases h : 0 ≤ t
  · by_cases h2 : t < e.c.tasks
    · by_cases h3 : 0 ≤ v
      · simp only [h, h2, h3, if_true, true_and]
      · simp only [h, h2, h3, if_true, if_false, false_and, and_false, decide_false]
    · simp only [h, h2, if_true, if_false, false_and, and_false, decide_false]
  · simp only [h, if_false, false_and, decide_false]
theorem arO : ∃ x, aa4 ⟨o0⟩ e = some ((true, ()), (x, alg e, ())) ∧ x.o = if IsT e (wi (e.gt 0)) then ⟨true, 1, wi (e.gt 0)⟩ else ⟨true, 3, 0⟩ := by
  simp only [aa4, aaH, abi, auw, o0, an1, agc, Option.bind_some, Bool.false_eq_true, if_true, if_false]
  by_cases h : IsT e (wi (e.gt 0))
  · have h' : IsT { e with m := e.m.pt 6 0 (wu (e.m.gt 0 + 1)) } (wi (e.m.gt 0)) := h
    simp only [h, h', decide_true, Bool.not_true, Bool.false_eq_true, if_true, if_false]
    exact ⟨_, rfl, rfl⟩
  · have h' : ¬ IsT { e with m := e.m.pt 6 0 (wu (e.m.gt 0 + 1)) } (wi (e.m.gt 0)) := h
    simp only [h, h', decide_false, Bool.not_false, if_true, if_false]
    exact ⟨_, rfl, rfl⟩
theorem anO {t v : Int} (s : PublishS) : acS PublishV.o (ahu t v) (aaZ (ahu t v s) e) (afc t v e s) := by
  by_cases h : IsT e t
  · cases s <;> simp only [aaZ, ahu, afc, agc, h, not_true, decide_true, Bool.not_true, aaH, abi, aqy, o0, acz, ahH, amF, aea, Option.bind_some, Bool.false_eq_true, if_true, if_false, reduceIte, Int.reduceEq]
    all_goals first | rfl | exact ⟨_, rfl, rfl⟩
  · cases s <;> simp only [aaZ, ahu, afc, agc, h, not_false_eq_true, decide_false, Bool.not_false, aaH, abi, o0, Option.bind_some, Bool.false_eq_true, if_true, if_false]
    all_goals exact ⟨_, rfl, rfl⟩
theorem anb {w t : Int} (hl : e.evs.length ≤ 999999999) (hr : e.hit (acO e.l t) 1 = true → 0 ≤ t ∧ t < (e.recs.length : Int)) : ∃ x, abx ⟨o0, w, t⟩ e = some ((true, ()), (x, anc w t e, ())) ∧ x.o = if akp t e = true then ⟨true, 1, t⟩ else ⟨true, 4, 0⟩ := by
  simp only [abx, aaH, abi, o0, alG, aea, Option.bind_some, Bool.false_eq_true, if_true, if_false]
  unfold anc akp
  simp only [EnvP.hit] at hr ⊢
  rcases Bool.eq_false_or_eq_true (e.m.hit (acO e.l t) 1) with h | h
  · simp only [h, Bool.not_true, Bool.false_eq_true, if_true, if_false, hr h, and_self]
    by_cases hs : (aab e.recs t).started = true
    · have hs' : (e.rc t).started = true := hs
      simp only [hs, hs', if_true, afd (e := { e with m := e.m.cas (acO e.l t) 1 2 }) hl, Option.bind_some]
      exact ⟨_, rfl, rfl⟩
    · have hs' : ¬ (e.rc t).started = true := hs
      simp only [hs, hs', if_false, afd (e := { e with m := e.m.cas (acO e.l t) 1 2, recs := e.recs.set t.toNat { aab e.recs t with started := true } }) hl, Option.bind_some]
      exact ⟨_, rfl, rfl⟩
  · simp only [h, Bool.not_false, Bool.false_eq_true, if_true, if_false, afd (e := { e with m := e.m.cas (acO e.l t) 1 2 }) hl, Option.bind_some]
    exact ⟨_, rfl, rfl⟩
theorem amA {w t v : Int} (hl : e.evs.length ≤ 999999999) (s : RaiseS) : acS RaiseV.o (amB w t v) (abn (amB w t v s) e) (af3 w t v e s) := by
  have hm : ∀ m v, aei { e with m := m } v = some ((), ({ e with m := m, evs := e.evs ++ [v] }, ())) := fun m v => afd (e := { e with m := m }) hl
  by_cases h : atF e t v
  · cases s <;> simp only [abn, amB, af3, alR, h, not_true, decide_true, Bool.not_true, aaH, abi, o0, adU, alG, ahH, hm, Option.bind_some, Bool.false_eq_true, if_true, if_false, reduceIte, Int.reduceEq, acY]
    all_goals repeat' first | with_reducible refine acS.ite (fun _ => ?_) fun _ => ?_ | with_reducible refine acS.iteN (fun _ => ?_) fun _ => ?_
    all_goals first | rfl | exact ⟨_, rfl, rfl⟩
  · cases s <;> simp only [abn, amB, af3, alR, h, not_false_eq_true, decide_false, Bool.not_false, aaH, abi, o0, Option.bind_some, Bool.false_eq_true, if_true, if_false]
    all_goals exact ⟨_, rfl, rfl⟩
theorem aop [Tb] {w v : Int} (hl : e.evs.length ≤ 999999999) (s : WakeS) : acS WakeV.o (ans w v) (abL (ans w v s) e) (anr w v e s) := by
  have hm : ∀ m v, aei { e with m := m } v = some ((), ({ e with m := m, evs := e.evs ++ [v] }, ())) := fun m v => afd (e := { e with m := m }) hl
  by_cases hc : e.c.classes < 1
  · cases s <;> simp only [abL, ans, anr, amj, hc, aaH, abi, aqB, o0, adU, an1, aqF, anY, aqA, amI, amH, aiM, hm, Option.bind_some, Bool.false_eq_true, if_true, if_false, reduceIte, Int.reduceEq, acY, ah2, decide_eq_true_eq]
    all_goals repeat' first | with_reducible refine acS.ite (fun _ => ?_) fun _ => ?_ | with_reducible refine acS.iteN (fun _ => ?_) fun _ => ?_
    all_goals first | rfl | exact ⟨_, rfl, rfl⟩
  · cases s <;> simp only [abL, ans, anr, amj, hc, aaH, abi, aqB, o0, adU, an1, aqF, anY, aqA, amI, amH, aiM, hm, Option.bind_some, Bool.false_eq_true, if_true, if_false, reduceIte, Int.reduceEq, acY, ah2, decide_eq_true_eq]
    all_goals repeat' first | with_reducible refine acS.ite (fun _ => ?_) fun _ => ?_ | with_reducible refine acS.iteN (fun _ => ?_) fun _ => ?_
    all_goals first | rfl | exact ⟨_, rfl, rfl⟩
end
section
variable {e : EnvP}
theorem acS.bind {σ X α : Type} {og : X → OutV} {mk : σ → X} {r : Rs σ × EnvP} {A : Option α} {f : α → Option ((Bool × Unit) × (X × EnvP × Unit))} {z : α} (h : A = some z) (h2 : acS og mk (f z) r) : acS og mk (A.bind f) r := by rw [h]; exact h2
end
inductive One (m : MemV) : MemV → Prop where
  | no : One m m
  | yes (k a v : Int) (h : 0 ≤ a ∧ a < (m.cells.length : Int)) (hk : k < 2 → v = aeh m.cells a) : One m ⟨m.cells.set a.toNat v, ⟨k, a, aeh m.cells a, v⟩, wi (m.count + 1)⟩
structure Stp (j : Nat) (e e' : EnvP) : Prop where
  c : e'.c = e.c
  l : e'.l = e.l
  k : e'.k = e.k
  rl : e'.recs.length = e.recs.length
  m : One e.m e'.m
  ev : e'.evs.length ≤ e.evs.length + j
  kd : ∀ K, (∀ r ∈ e.recs, r.kids.length ≤ K) → ∀ r ∈ e'.recs, r.kids.length ≤ K + 1
section
variable {j : Nat} {e e' : EnvP}
theorem Stp.refl : Stp 0 e e := ⟨rfl, rfl, rfl, rfl, .no, Nat.le_refl _, fun K h r hr => Nat.le_succ_of_le (h r hr)⟩
theorem Stp.le {i : Nat} (h : Stp j e e') (hi : j ≤ i) : Stp i e e' := ⟨h.c, h.l, h.k, h.rl, h.m, Nat.le_trans h.ev (Nat.add_le_add_left hi _), h.kd⟩
theorem aqO {m : MemV} {k a v : Int} (hk : k < 2 → 0 ≤ a → a < (m.cells.length : Int) → v = aeh m.cells a) : One m (m.pt k a v) := by
  unfold MemV.pt
  by_cases h : 0 ≤ a ∧ a < (m.cells.length : Int)
  · rw [if_pos h]; exact .yes k a v h fun hk' => hk hk' h.1 h.2
  · rw [if_neg h]; exact .no
theorem Stp.pt {k a v : Int} (hk : 2 ≤ k) : Stp 0 e (e.pt k a v) := ⟨rfl, rfl, rfl, rfl, aqO fun h => absurd h (by omega), Nat.le_refl _, fun K h r hr => Nat.le_succ_of_le (h r hr)⟩
theorem Stp.lk {a : Int} : Stp 0 e (e.lk a) := ⟨rfl, rfl, rfl, rfl, aqO fun _ h1 h2 => by unfold MemV.gt; rw [if_pos ⟨h1, h2⟩], Nat.le_refl _, fun K h r hr => Nat.le_succ_of_le (h r hr)⟩
theorem Stp.cas {a o v : Int} : Stp 0 e (e.cas a o v) := ⟨rfl, rfl, rfl, rfl, aqO fun h => absurd h (by omega), Nat.le_refl _, fun K h r hr => Nat.le_succ_of_le (h r hr)⟩
theorem Stp.em {k w t o l : Int} (h : Stp j e e') : Stp (j + 1) e (e'.em k w t o l) := ⟨h.c, h.l, h.k, h.rl, h.m, by
  show (e'.evs ++ [_]).length ≤ _
  rw [List.length_append, List.length_singleton]
  have := h.ev
  omega, h.kd⟩
theorem Stp.pr {t : Int} {r : RecP} (h : Stp j e e') (hr : ∀ K, (∀ r ∈ e.recs, r.kids.length ≤ K) → r.kids.length ≤ K + 1) : Stp j e (e'.pr t r) := ⟨h.c, h.l, h.k, (by show (e'.recs.set _ _).length = _; rw [List.length_set]; exact h.rl), h.m, h.ev, fun K hK x hx => by
  rcases List.mem_or_eq_of_mem_set hx with hx | rfl
  · exact h.kd K hK x hx
  · exact hr K hK⟩
theorem ajm {q : QV} {v : Int} (s : OPushS) : Stp 0 e (agT q v e s).2 := by
  cases s <;> unfold agT <;> first | exact .lk | exact .pt (by decide)
theorem avK {a b : Int} : Stp 0 e (axh a b e) := .pt (by decide)
theorem apB {t v : Int} (s : PublishS) : Stp 0 e (afc t v e s).2 := by
  unfold afc
  split
  · exact .refl
  · cases s <;> exact .pt (by decide)
theorem aur {t : Int} (h : 0 ≤ t ∧ t < (e.recs.length : Int)) (K : Nat) (hK : ∀ r ∈ e.recs, r.kids.length ≤ K) : (e.rc t).kids.length ≤ K := by
  refine hK _ ?_
  have h1 := adk (d := (dfR 26 : RecP)) (xs := e.recs) h
  exact List.mem_of_getElem? h1
theorem aoJ {w t v : Int} (s : RaiseS) : Stp 1 e (af3 w t v e s).2 := by
  unfold af3
  split
  · exact Stp.refl.le (by decide)
  · cases s
    · exact Stp.lk.le (by decide)
    · simp only
      split
      · exact Stp.cas.em
      · exact Stp.cas.le (by decide)
theorem alN {w v x : Int} (s : LPushS) : Stp 0 e (aep w v x e s).2 := by
  cases s with
  | new =>
    have h := ajm (e := e) (q := adz e.l w v) (v := x) .l1
    revert h
    simp only [aep]
    rcases agT (adz e.l w v) x e .l1 with ⟨r | ⟨c, y⟩, e'⟩ <;> intro h <;> exact h
  | push s =>
    have h := ajm (e := e) (q := adz e.l w v) (v := x) s
    revert h
    simp only [aep]
    rcases agT (adz e.l w v) x e s with ⟨r | ⟨c, y⟩, e'⟩ <;> intro h <;> exact h
  | set => exact avK
theorem atI {w v : Int} (s : WalkS) : Stp 1 e (ahc w v e s).2 := by
  cases s with
  | l1 t =>
    by_cases hf : atF e t v
    · have h := aoJ (e := e) (w := w) (t := t) (v := v) (.l1 0)
      simp only [ahc, hf, not_true, if_false]
      revert h
      rcases af3 w t v e (.l1 0) with ⟨r | ⟨c, y⟩, e'⟩ <;> intro h <;> exact h
    · simp only [ahc, hf, not_false_eq_true, if_true]
      exact Stp.refl.le (by decide)
  | raise t s =>
    have h := aoJ (e := e) (w := w) (t := t) (v := v) s
    revert h
    simp only [ahc]
    rcases af3 w t v e s with ⟨r | ⟨c, y⟩, e'⟩ <;> intro h <;> exact h
  | l2 t => exact Stp.lk.le (by decide)
  | push t s =>
    have h := alN (e := e) (w := w) (v := v) (x := t) s
    revert h
    simp only [ahc]
    rcases aep w v t e s with ⟨r | ⟨c, y⟩, e'⟩ <;> intro h
    · exact h.le (by decide)
    · show Stp 1 e (if c = 3 then _ else _)
      split
      · exact h.em
      · exact h.le (by decide)
  | l4 t => exact Stp.lk.le (by decide)
end
structure EOk (K : Nat) (e : EnvP) : Prop where
  dq : 0 ≤ e.l.deque ∧ e.l.deque ≤ 65535
  tk : e.l.tasks = (e.recs.length : Int)
  ct : e.c.tasks = (e.recs.length : Int)
  wk : 1 ≤ e.c.workers
  ev : e.evs.length ≤ K
  kd : ∀ r ∈ e.recs, r.kids.length ≤ K
section
variable [Tb] {K : Nat} {e : EnvP}
theorem EOk.q (h : EOk K e) (w v : Int) : (adz e.l w v).cap ≤ 9223372036854775807 := by
  have := h.dq
  unfold adz
  repeat' split
  all_goals simp only; omega
theorem EOk.st (h : EOk K e) {t o : Int} (hh : e.hit (acO e.l t) o = true) : 0 ≤ t ∧ t < (e.recs.length : Int) := by
  have h1 : 0 ≤ acO e.l t := by
    have := of_decide_eq_true hh
    exact this.1.1
  unfold acO ant atP at h1
  rw [← h.tk]
  split at h1
  · omega
  · split at h1 <;> omega
theorem EOk.step (h : EOk K e) {j : Nat} {e' : EnvP} (s : Stp j e e') : EOk (K + j + 1) e' := by
  refine ⟨?_, ?_, ?_, ?_, ?_, ?_⟩
  · rw [s.l]; exact h.dq
  · rw [s.l, s.rl]; exact h.tk
  · rw [s.c, s.rl]; exact h.ct
  · rw [s.c]; exact h.wk
  · have := s.ev; have := h.ev; omega
  · intro r hr
    have := s.kd K h.kd r hr
    omega
@[reducible] def ajZ (l : LayV) (w v x : Int) : LPushS → LPushV MV
  | .new => ⟨o0, w, v, x, 1, .nil⟩
  | .push s => ⟨o0, w, v, x, 1, .opush (aoY (adz l w v) x s)⟩
  | .set => ⟨o0, w, v, x, 2, .set ⟨o0, akx l w, v⟩⟩
@[reducible] def axu (l : LayV) (w : Int) : LPopS → LPopV MV
  | .l1 v => ⟨o0, w, v, 1, .nil⟩
  | .l2 v s => ⟨o0, w, v, 2, .opop (axn (adz l w v) s)⟩
  | .l3 v s => ⟨o0, w, v, 3, .reset (avV (akx l w) v (adz l w v) s)⟩
@[reducible] def atJ (l : LayV) (w v : Int) : WalkS → WalkV MV
  | .l1 t => ⟨o0, w, t, v, 1, .nil⟩
  | .raise t s => ⟨o0, w, t, v, 1, .raise (amB w t v s)⟩
  | .l2 t => ⟨o0, w, t, v, 2, .nil⟩
  | .push t s => ⟨o0, w, t, v, 3, .lpush (ajZ l w v t s)⟩
  | .l4 t => ⟨o0, w, t, v, 4, .nil⟩
@[reducible] def arl (l : LayV) (w t : Int) : EnterS → EnterV MV
  | .l1 => ⟨o0, w, t, 0, 1, .nil⟩
  | .l2 => ⟨o0, w, t, 0, 2, .nil⟩
  | .l3 => ⟨o0, w, t, 0, 3, .nil⟩
  | .l4 v s => ⟨o0, w, t, v, 4, .lpush (ajZ l w v t s)⟩
@[reducible] def ax7 (l : LayV) (w t : Int) : SweepS → SweepV MV
  | .l1 => ⟨o0, w, t, 1, 0, .nil⟩
  | .l2 => ⟨o0, w, t, 2, 0, .nil⟩
  | .l3 => ⟨o0, w, t, 3, 0, .nil⟩
  | .l4 q => ⟨o0, w, t, 4, q, .nil⟩
  | .l5 q => ⟨o0, w, t, 5, q, .nil⟩
  | .l6 q s => ⟨o0, w, t, 6, q, .lpush (ajZ l w (wi (wi q + 1)) t s)⟩
@[reducible] def ayl (l : LayV) (w : Int) : TakeS → TakeV MV
  | .pop s => ⟨o0, w, false, .lpop (axu l w s)⟩
  | .claim t => ⟨o0, w, true, .claim ⟨o0, w, t⟩⟩
@[reducible] def arn (l : LayV) (w p x last : Int) : DrainC → Int × MV
  | .l1 => (1, .nil)
  | .l2 => (2, .attempt ⟨o0, w, true⟩)
  | .l3 s => (3, .remove (aup w s))
  | .l4 => (4, .nil)
  | .l5 s => (5, .lpush (ajZ l w p x s))
  | .l6 => (6, .release ⟨o0⟩)
  | .l7 s => (7, .wake (ans w last s))
@[reducible] def ayi (l : LayV) (w : Int) (d : DrainS) : DrainV MV :=
  ⟨o0, w, (arn l w d.p d.x d.last d.c).1, (arn l w d.p d.x d.last d.c).2, d.x, d.direct, d.p, d.last, d.count⟩
theorem anw : (SR1.spl MV.nil).isNone = true := rfl
theorem ap6 (x : OPushV) : (SR1.spl (MV.opush x)).isNone = false := rfl
theorem at2 (x : SetV) : (SR1.spl (MV.set x)).isNone = false := rfl
theorem ap5 (x : RaiseV) : (SR1.spl (MV.raise x)).isNone = false := rfl
theorem ajY {w v x : Int} (hK : EOk K e) (s : LPushS) : acS LPushV.o (ajZ e.l w v x) (abm (ajZ e.l w v x s) e) (aep w v x e s) := by
  have hq := hK.q w v
  cases s with
  | new =>
    have h := amN (e := e) (v := x) hq .l1
    have hn := ajm (e := e) (q := adz e.l w v) (v := x) .l1
    revert h hn
    simp only [aep, abm, anw, aaH, abi, o0, aqw, ajT, aiJ, Option.bind_some, if_true, Bool.false_eq_true, if_false]
    rcases agT (adz e.l w v) x e .l1 with ⟨r | ⟨c, y⟩, e'⟩ <;> intro h hn
    · simp only [acS, o0] at h
      simp only [h, Option.bind_some, Bool.not_false, if_true]
      rfl
    · simp only [acS, o0] at h
      obtain ⟨x', h, ho⟩ := h
      have hnl : e'.l = e.l := hn.l
      simp only [h, ho, aem, Option.bind_some, Bool.not_true, Bool.false_eq_true, if_false, akY, ago, hnl, reduceIte, Int.reduceEq, acY]
      exact acS.ite (fun _ => ⟨_, rfl, rfl⟩) fun _ => rfl
  | push s =>
    have h := amN (e := e) (v := x) hq s
    have hn := ajm (e := e) (q := adz e.l w v) (v := x) s
    revert h hn
    simp only [aep, abm, ap6, aaH, abi, o0, aiJ, Option.bind_some, if_true, Bool.false_eq_true, if_false]
    rcases agT (adz e.l w v) x e s with ⟨r | ⟨c, y⟩, e'⟩ <;> intro h hn
    · simp only [acS] at h
      simp only [h, Option.bind_some, Bool.not_false, if_true]
      rfl
    · simp only [acS] at h
      obtain ⟨x', h, ho⟩ := h
      have hnl : e'.l = e.l := hn.l
      simp only [h, ho, aem, Option.bind_some, Bool.not_true, Bool.false_eq_true, if_false, akY, ago, hnl, reduceIte, Int.reduceEq, acY]
      exact acS.ite (fun _ => ⟨_, rfl, rfl⟩) fun _ => rfl
  | set =>
    obtain ⟨y, h, ho⟩ := at9 (e := e) (a := akx e.l w) (b := v)
    simp only [o0] at h
    simp only [aep, abm, at2, aaH, abi, o0, aiJ, h, ho, aem, Option.bind_some, Bool.not_true, if_true, Bool.false_eq_true, if_false, reduceIte, Int.reduceEq]
    exact ⟨_, rfl, rfl⟩
theorem ar4 {w v : Int} (hK : EOk K e) (hk : K ≤ 100000000) (s : WalkS) : acS WalkV.o (atJ e.l w v) (aa8 (atJ e.l w v s) e) (ahc w v e s) := by
  have hl : e.evs.length ≤ 999999999 := by have := hK.ev; omega
  cases s with
  | l1 t =>
    by_cases hf : atF e t v
    · have h := amA (e := e) (w := w) (t := t) (v := v) hl (.l1 0)
      revert h
      simp only [ahc, hf, aa8, acD, alR, decide_true, not_true, Bool.not_true, anw, aiA, aaH, abi, o0, ad4, Option.bind_some, if_true, Bool.false_eq_true, if_false, reduceIte, Int.reduceEq]
      rcases af3 w t v e (.l1 0) with ⟨r | ⟨c, y⟩, e'⟩ <;> intro h
      · simp only [acS, o0] at h
        simp only [h, Option.bind_some, Bool.not_false, if_true]
        rfl
      · simp only [acS, o0] at h
        obtain ⟨x', h, ho⟩ := h
        simp only [h, ho, abR, Option.bind_some, Bool.not_true, Bool.false_eq_true, if_true, if_false, acY, ah2, aq2]
        exact acS.ite (fun _ => rfl) fun _ => rfl
    · simp only [ahc, hf, aa8, acD, alR, decide_false, not_false_eq_true, Bool.not_false, anw, aaH, abi, o0, Option.bind_some, if_true, Bool.false_eq_true, if_false, reduceIte, Int.reduceEq]
      exact ⟨_, rfl, rfl⟩
  | raise t s =>
    have h := amA (e := e) (w := w) (t := t) (v := v) hl s
    revert h
    simp only [ahc, aa8, acD, ap5, aaH, abi, o0, ad4, Option.bind_some, if_true, Bool.false_eq_true, if_false, reduceIte, Int.reduceEq]
    rcases af3 w t v e s with ⟨r | ⟨c, y⟩, e'⟩ <;> intro h
    · simp only [acS] at h
      simp only [h, Option.bind_some, Bool.not_false, if_true]
      rfl
    · simp only [acS] at h
      obtain ⟨x', h, ho⟩ := h
      simp only [h, ho, abR, Option.bind_some, Bool.not_true, Bool.false_eq_true, if_true, if_false, acY, ah2, aq2]
      exact acS.ite (fun _ => rfl) fun _ => rfl
  | l2 t =>
    simp only [ahc, aa8, aaH, abi, o0, aea, adU, abG, Option.bind_some, if_true, Bool.false_eq_true, if_false, reduceIte, Int.reduceEq, acY, aq2]
    exact acS.ite (fun _ => rfl) fun _ => rfl
  | push t s =>
    have h := ajY (w := w) (v := v) (x := t) hK s
    have hn := alN (e := e) (w := w) (v := v) (x := t) s
    revert h hn
    simp only [ahc, aa8, afu, aaH, abi, o0, ad4, Option.bind_some, if_true, Bool.false_eq_true, if_false, reduceIte, Int.reduceEq]
    rcases aep w v t e s with ⟨r | ⟨c, y⟩, e'⟩ <;> intro h hn
    · simp only [acS] at h
      simp only [h, Option.bind_some, Bool.not_false, if_true]
      rw [← hn.l]
      rfl
    · simp only [acS] at h
      obtain ⟨x', h, ho⟩ := h
      have hl' : e'.evs.length ≤ 999999999 := by have h1 : e'.evs.length ≤ e.evs.length + 0 := hn.ev; have := hK.ev; omega
      simp only [h, ho, abR, Option.bind_some, Bool.not_true, Bool.false_eq_true, if_true, if_false, afd hl']
      by_cases hc : c = 3
      · simp only [hc, if_true]; rfl
      · simp only [hc, if_false]; rfl
  | l4 t =>
    simp only [ahc, aa8, aaH, abi, o0, ahA, adU, Option.bind_some, if_true, Bool.false_eq_true, if_false, reduceIte, Int.reduceEq, acY]
    exact acS.ite (fun _ => ⟨_, rfl, rfl⟩) fun _ => rfl
theorem ark {w t : Int} (hK : EOk K e) (s : EnterS) : acS EnterV.o (arl e.l w t) (aa5 (arl e.l w t s) e) (aiP w t e s) := by
  cases s with
  | l1 =>
    by_cases hf : IsT e t
    · simp only [aiP, hf, aa5, agc, decide_true, not_true, Bool.not_true, aaH, abi, aqy, o0, amF, acz, Option.bind_some, if_true, Bool.false_eq_true, if_false, reduceIte, Int.reduceEq]
      rfl
    · simp only [aiP, hf, aa5, agc, decide_false, not_false_eq_true, Bool.not_false, aaH, abi, o0, Option.bind_some, if_true, Bool.false_eq_true, if_false, reduceIte, Int.reduceEq]
      exact ⟨_, rfl, rfl⟩
  | l2 =>
    simp only [aiP, aa5, aaH, abi, o0, aea, acz, Option.bind_some, if_true, Bool.false_eq_true, if_false, reduceIte, Int.reduceEq]
    rfl
  | l3 =>
    simp only [aiP, aa5, aaH, abi, o0, ahH, adU, abG, Option.bind_some, if_true, Bool.false_eq_true, if_false, reduceIte, Int.reduceEq]
    rfl
  | l4 v s =>
    have h := ajY (w := w) (v := v) (x := t) hK s
    have hn := alN (e := e) (w := w) (v := v) (x := t) s
    revert h hn
    simp only [aiP, aa5, aaH, abi, o0, ad4, Option.bind_some, if_true, Bool.false_eq_true, if_false, reduceIte, Int.reduceEq]
    rcases aep w v t e s with ⟨r | ⟨c, y⟩, e'⟩ <;> intro h hn
    · simp only [acS] at h
      simp only [h, Option.bind_some, Bool.not_false, if_true]
      rfl
    · simp only [acS] at h
      obtain ⟨x', h, ho⟩ := h
      simp only [h, ho, abR, Option.bind_some, Bool.not_true, Bool.false_eq_true, if_true, if_false]
      exact ⟨_, rfl, rfl⟩
end
section
variable [Tb] {K : Nat} {e : EnvP}
theorem bnd {α β : Type} {a : α} {f : α → Option β} : (some a).bind f = f a := by
  generalize h : some a = x
  subst h
  rfl
end
section
variable [Tb] {K : Nat} {e : EnvP}
end
structure SOk (l : List Int) : Prop where
  ne : l ≠ []
  le : l.length ≤ 999999999
section
variable {l : List Int}
theorem SOk.n (h : SOk l) : wi (((l.length : Nat) : Int) - 1) = ((l.length - 1 : Nat) : Int) := by
  have h1 := List.length_pos_iff.2 h.ne
  have h2 := h.le
  rw [ad2 (acf (by omega))]; omega
theorem SOk.a (h : SOk l) : aae l ((l.length - 1 : Nat) : Int) = aaC l := by
  have h1 := List.length_pos_iff.2 h.ne
  have h2 : l[l.length - 1]? = some (l[l.length - 1]'(by omega)) := List.getElem?_eq_getElem _
  simp only [aae, atL, aaC, Int.toNat_natCast, List.getLast?_eq_getElem?, h2]
  rfl
theorem SOk.g (h : SOk l) : (0 ≤ ((l.length - 1 : Nat) : Int) ∧ ((l.length - 1 : Nat) : Int) < ((l.length : Nat) : Int)) = True := by
  have h1 := List.length_pos_iff.2 h.ne
  exact eq_true ⟨by omega, by omega⟩
theorem SOk.g2 (h : SOk l) : (0 ≤ ((l.length - 1 : Nat) : Int) ∧ ((l.length - 1 : Nat) : Int) ≤ ((l.length : Nat) : Int)) = True := by
  have h1 := List.length_pos_iff.2 h.ne
  exact eq_true ⟨by omega, by omega⟩
theorem SOk.t (h : SOk l) : l.take (((l.length - 1 : Nat) : Int)).toNat = l.dropLast := by
  rw [List.dropLast_eq_take]; simp
theorem SOk.s (h : SOk l) (y : Int) : l.set (((l.length - 1 : Nat) : Int)).toNat y = l.dropLast ++ [y] := by
  obtain ⟨a, b, rfl⟩ : ∃ a b, l = a ++ [b] := ⟨l.dropLast, l.getLast h.ne, (List.dropLast_concat_getLast h.ne).symm⟩
  simp
end
section
variable [Tb] {e : EnvP} {o : OutV} {w ln id ch lv wt : Int} {st : List Int} {m : MV}
theorem ajp {rs : List RecP} {t : Int} {r : RecP} (h : 0 ≤ t ∧ t < (rs.length : Int)) : aab (rs.set t.toNat r) t = r := arF h
theorem amz {rs : List RecP} {t : Int} (h : 0 ≤ t ∧ t < (rs.length : Int)) : rs.set t.toNat (aab rs t) = rs := by
  have h1 := adk (d := (dfR 26 : RecP)) (xs := rs) h
  have h2 : t.toNat < rs.length := by omega
  refine List.ext_getElem? fun i => ?_
  by_cases hi : t.toNat = i
  · subst hi
    rw [List.getElem?_set_self h2]
    exact h1.symm
  · rw [List.getElem?_set_ne hi]
def adj (x : RecP) (p : List Ins) : Int :=
  if x.waiting ≠ -1 then 1
  else if x.pc < 0 ∨ (p.length : Int) ≤ x.pc then 16
  else if (aaY p x.pc).op = 0 then 2
  else if (aaY p x.pc).op = 1 then 4
  else if (aaY p x.pc).a < 0 ∨ (x.kids.length : Int) ≤ (aaY p x.pc).a ∨ aae x.kids (aaY p x.pc).a = -1 then 3
  else 9
theorem ajI {x : RecP} (h1 : ¬ x.prog < 0) (h2 : ¬ (e.c.progs.length : Int) ≤ x.prog) : e.prog x = atL [] e.c.progs x.prog := by
  unfold EnvP.prog
  rw [if_neg (by omega)]
theorem ads {x : RecP} (h : x.prog < 0 ∨ (e.c.progs.length : Int) ≤ x.prog) : e.prog x = [] := by
  unfold EnvP.prog
  rw [if_pos h]
theorem arw {x : RunV MV} (hS : SOk x.stack) (hT : 0 ≤ aaC x.stack ∧ aaC x.stack < (e.recs.length : Int)) : acV x e = some ((adj (e.rc (aaC x.stack)) (e.prog (e.rc (aaC x.stack))), ()), (x, e, ())) := by
  unfold acV
  simp only [hS.n, hS.a, hS.g, hT, and_self, if_true, amz hT]
  show _ = some ((adj (aab e.recs (aaC x.stack)) (e.prog (aab e.recs (aaC x.stack))), ()), (x, e, ()))
  generalize aab e.recs (aaC x.stack) = r
  by_cases h1 : r.prog < 0
  · rw [ads (.inl h1)]
    simp only [h1, if_true, adj, List.length_nil]
    split
    · rfl
    · rw [if_pos (show r.pc < 0 ∨ ((0 : Nat) : Int) ≤ r.pc by omega)]
      split
      · rfl
      · rw [if_pos (by omega)]
  by_cases h2 : (e.c.progs.length : Int) ≤ r.prog
  · rw [ads (.inr h2)]
    simp only [h1, h2, if_true, if_false, adj, List.length_nil]
    split
    · rfl
    · rw [if_pos (show r.pc < 0 ∨ ((0 : Nat) : Int) ≤ r.pc by omega)]
      split
      · rfl
      · rw [if_pos (by omega)]
  rw [ajI h1 h2]
  generalize atL [] e.c.progs r.prog = p
  unfold adj
  rw [if_neg h1, if_neg h2]
  rw [if_pos (show 0 ≤ r.prog ∧ r.prog < (e.c.progs.length : Int) by omega)]
  by_cases hw : r.waiting ≠ -1
  · rw [if_pos hw, if_pos hw]
  rw [if_neg hw, if_neg hw]
  by_cases h3 : r.pc < 0
  · rw [if_pos h3, if_pos (.inl h3)]
  by_cases h4 : (p.length : Int) ≤ r.pc
  · rw [if_neg h3, if_pos h4, if_pos (.inr h4)]
  rw [if_neg h3, if_neg h4, if_neg (show ¬ (r.pc < 0 ∨ (p.length : Int) ≤ r.pc) by omega)]
  have hp : 0 ≤ r.pc ∧ r.pc < (p.length : Int) := by omega
  rw [if_pos hp]
  by_cases c1 : (aaY p r.pc).op = 0
  · rw [if_pos c1, if_pos c1]
  rw [if_neg c1, if_neg c1, if_pos hp]
  by_cases c2 : (aaY p r.pc).op = 1
  · rw [if_pos c2, if_pos c2]
  rw [if_neg c2, if_neg c2, if_pos hp]
  by_cases h5 : (aaY p r.pc).a < 0
  · rw [if_pos h5, if_pos (.inl h5)]
  by_cases h6 : (r.kids.length : Int) ≤ (aaY p r.pc).a
  · rw [if_neg h5, if_pos h6, if_pos (.inr (.inl h6))]
  rw [if_neg h5, if_neg h6, if_pos (show 0 ≤ (aaY p r.pc).a ∧ (aaY p r.pc).a < (r.kids.length : Int) by omega)]
  by_cases h7 : aae r.kids (aaY p r.pc).a = -1
  · rw [if_pos h7, if_pos (.inr (.inr h7))]
  · rw [if_neg h7, if_neg (by omega)]
theorem aic {x : RunV MV} {v : Ev} (h : e.evs.length ≤ 999999999) : aaw x e v = some ((), (x, { e with evs := e.evs ++ [{ v with worker := x.worker }] }, ())) := by
  unfold aaw
  rw [afd h, bnd]
theorem at8 (hS : SOk st) (hT : 0 ≤ aaC st ∧ aaC st < (e.recs.length : Int)) : aav ⟨o, w, st, 1, m, id, ch, lv, wt⟩ e = some ((false, ()), (⟨o, w, st, 0, .nil, id, ch, lv, wt⟩, (e.pt 2 (agN e.l (aaC st)) 0).pr (aaC st) { e.rc (aaC st) with waiting := -1 }, ())) := by
  unfold aav
  simp only [hS.n, hS.a, hS.g, hT, and_self, if_true, ahA, acz, aac, bnd]
  rfl
theorem at7 (hS : SOk st) (hT : 0 ≤ aaC st ∧ aaC st < (e.recs.length : Int)) (hp : ¬ ((e.rc (aaC st)).pc < 0 ∨ ((e.prog (e.rc (aaC st))).length : Int) ≤ (e.rc (aaC st)).pc)) : aav ⟨o, w, st, 2, m, id, ch, lv, wt⟩ e = some ((false, ()), (⟨o, w, st, 0, .nil, id, ch, lv, wt⟩, e.pr (aaC st) (aey (e.rc (aaC st)) (aaY (e.prog (e.rc (aaC st))) (e.rc (aaC st)).pc)), ())) := by
  unfold aav
  simp only [hS.n, hS.a, hS.g, hT, and_self, if_true, Int.reduceEq, if_false, ajp hT, List.set_set, aac, bnd, List.length_set]
  show _ = some ((false, ()), (_, { e with recs := e.recs.set (aaC st).toNat (aey (aab e.recs (aaC st)) (aaY (e.prog (aab e.recs (aaC st))) (aab e.recs (aaC st)).pc)) }, ()))
  have hp' : ¬ ((aab e.recs (aaC st)).pc < 0 ∨ ((e.prog (aab e.recs (aaC st))).length : Int) ≤ (aab e.recs (aaC st)).pc) := hp
  generalize aab e.recs (aaC st) = r at hp' ⊢
  by_cases h1 : r.prog < 0
  · rw [ads (.inl h1)] at hp'; simp only [List.length_nil] at hp'; omega
  by_cases h2 : (e.c.progs.length : Int) ≤ r.prog
  · rw [ads (.inr h2)] at hp'; simp only [List.length_nil] at hp'; omega
  rw [ajI h1 h2] at hp' ⊢
  have h3 : (0 ≤ r.prog ∧ r.prog < (e.c.progs.length : Int)) = True := eq_true (by omega)
  have h4 : (0 ≤ r.pc ∧ r.pc < ((atL [] e.c.progs r.prog).length : Int)) = True := eq_true (by omega)
  simp only [h1, h2, h3, h4, if_true, if_false, aey]
  by_cases h5 : r.left = 0
  · simp only [h5, if_true]
    split <;> rfl
  · simp only [h5, if_false]
    split <;> rfl
theorem at6 (hS : SOk st) (hT : 0 ≤ aaC st ∧ aaC st < (e.recs.length : Int)) : aav ⟨o, w, st, 3, m, id, ch, lv, wt⟩ e = some ((false, ()), (⟨o, w, st, 0, .nil, id, ch, lv, wt⟩, e.pr (aaC st) { e.rc (aaC st) with pc := wi ((e.rc (aaC st)).pc + 1) }, ())) := by
  unfold aav
  simp only [hS.n, hS.a, hS.g, hT, and_self, if_true, Int.reduceEq, if_false, aac, bnd]
  rfl
end
section
variable [Tb] {e : EnvP} {o : OutV} {w ln id ch lv wt : Int} {st : List Int} {m : MV}
theorem apT (hS : SOk st) (hT : 0 ≤ aaC st ∧ aaC st < (e.recs.length : Int)) (hp : ¬ ((e.rc (aaC st)).pc < 0 ∨ ((e.prog (e.rc (aaC st))).length : Int) ≤ (e.rc (aaC st)).pc)) (hl : e.evs.length ≤ 999999999) (hk : (e.rc (aaC st)).kids.length ≤ 999999999) (v : Int) :
    abc ⟨o, w, st, 4, m, id, ch, lv, wt⟩ e 3 v = some ((false, ()), (⟨o, w, st, 0, .nil, id, ch, lv, wt⟩, (e.pr (aaC st) { e.rc (aaC st) with pc := wi ((e.rc (aaC st)).pc + 1), kids := (e.rc (aaC st)).kids ++ [-1] }).em 4 w (aaC st) 0 0, ())) := by
  unfold abc
  have he : ∀ (x : RunV MV) (rs : List RecP) (v : Ev), aaw x { e with recs := rs } v = some ((), (x, { e with recs := rs, evs := e.evs ++ [{ v with worker := x.worker }] }, ())) := fun x rs v => aic (e := { e with recs := rs }) hl
  simp only [hS.n, hS.a, hS.g, hT, and_self, if_true, ajp hT, List.set_set, List.length_set]
  have hp' : ¬ ((aab e.recs (aaC st)).pc < 0 ∨ ((e.prog (aab e.recs (aaC st))).length : Int) ≤ (aab e.recs (aaC st)).pc) := hp
  have hk' : (aab e.recs (aaC st)).kids.length ≤ 999999999 := hk
  show _ = some ((false, ()), (_, EnvP.em { e with recs := e.recs.set (aaC st).toNat { aab e.recs (aaC st) with pc := wi ((aab e.recs (aaC st)).pc + 1), kids := (aab e.recs (aaC st)).kids ++ [-1] } } 4 w (aaC st) 0 0, ()))
  generalize aab e.recs (aaC st) = r at hp' hk' ⊢
  by_cases h1 : r.prog < 0
  · rw [ads (.inl h1)] at hp'; simp only [List.length_nil] at hp'; omega
  by_cases h2 : (e.c.progs.length : Int) ≤ r.prog
  · rw [ads (.inr h2)] at hp'; simp only [List.length_nil] at hp'; omega
  rw [ajI h1 h2] at hp'
  rw [if_neg h1, if_neg h2, if_pos (show 0 ≤ r.prog ∧ r.prog < (e.c.progs.length : Int) by omega), if_pos (show 0 ≤ r.pc ∧ r.pc < ((atL [] e.c.progs r.prog).length : Int) by omega), if_pos (show (((r.kids.length + ([-1] : List Int).length : Nat)) : Int) < 1000000000000 by rw [List.length_singleton]; omega)]
  rw [he, bnd, aac, bnd]
  rfl
theorem arP (hS : SOk st) (hT : 0 ≤ aaC st ∧ aaC st < (e.recs.length : Int)) (hp : ¬ ((e.rc (aaC st)).pc < 0 ∨ ((e.prog (e.rc (aaC st))).length : Int) ≤ (e.rc (aaC st)).pc)) (hk : (e.rc (aaC st)).kids.length ≤ 999999999) (v : Int) (hv : 0 ≤ v ∧ v < (e.recs.length : Int)) :
    abc ⟨o, w, st, 4, m, id, ch, lv, wt⟩ e 1 v = some ((false, ()), (⟨o, w, st, 5, .publish ⟨o0, v, (aaY (e.prog (e.rc (aaC st))) (e.rc (aaC st)).pc).b, 1⟩, v, ch, (aaY (e.prog (e.rc (aaC st))) (e.rc (aaC st)).pc).b, wt⟩, (e.pr (aaC st) { e.rc (aaC st) with pc := wi ((e.rc (aaC st)).pc + 1), kids := (e.rc (aaC st)).kids ++ [v] }).pr v (ayf (aaY (e.prog (e.rc (aaC st))) (e.rc (aaC st)).pc).a (aaC st)), ())) := by
  unfold abc
  simp only [hS.n, hS.a, hS.g, hT, and_self, if_true, ajp hT, List.set_set, List.length_set, Int.reduceEq, if_false, hv]
  have hp' : ¬ ((aab e.recs (aaC st)).pc < 0 ∨ ((e.prog (aab e.recs (aaC st))).length : Int) ≤ (aab e.recs (aaC st)).pc) := hp
  have hk' : (aab e.recs (aaC st)).kids.length ≤ 999999999 := hk
  show _ = some ((false, ()), ((⟨o, w, st, 5, .publish ⟨o0, v, (aaY (e.prog (aab e.recs (aaC st))) (aab e.recs (aaC st)).pc).b, 1⟩, v, ch, (aaY (e.prog (aab e.recs (aaC st))) (aab e.recs (aaC st)).pc).b, wt⟩ : RunV MV), ({ e with recs := (e.recs.set (aaC st).toNat { aab e.recs (aaC st) with pc := wi ((aab e.recs (aaC st)).pc + 1), kids := (aab e.recs (aaC st)).kids ++ [v] }).set v.toNat ⟨(aaY (e.prog (aab e.recs (aaC st))) (aab e.recs (aaC st)).pc).a, aaC st, 0, 0, -1, [], false⟩ } : EnvP), ()))
  generalize aab e.recs (aaC st) = r at hp' hk' ⊢
  by_cases h1 : r.prog < 0
  · rw [ads (.inl h1)] at hp'; simp only [List.length_nil] at hp'; omega
  by_cases h2 : (e.c.progs.length : Int) ≤ r.prog
  · rw [ads (.inr h2)] at hp'; simp only [List.length_nil] at hp'; omega
  rw [ajI h1 h2] at hp' ⊢
  rw [if_neg h1, if_neg h2, if_pos (show 0 ≤ r.prog ∧ r.prog < (e.c.progs.length : Int) by omega), if_pos (show 0 ≤ r.pc ∧ r.pc < ((atL [] e.c.progs r.prog).length : Int) by omega), if_pos (show (((r.kids.length + ([v] : List Int).length : Nat)) : Int) < 1000000000000 by rw [List.length_singleton]; omega)]
  rw [aek, bnd, aac, bnd]
theorem axx (hS : SOk st) (hT : 0 ≤ aaC st ∧ aaC st < (e.recs.length : Int)) (hp : ¬ ((e.rc (aaC st)).pc < 0 ∨ ((e.prog (e.rc (aaC st))).length : Int) ≤ (e.rc (aaC st)).pc)) (ha : ¬ ((aaY (e.prog (e.rc (aaC st))) (e.rc (aaC st)).pc).a < 0 ∨ ((e.rc (aaC st)).kids.length : Int) ≤ (aaY (e.prog (e.rc (aaC st))) (e.rc (aaC st)).pc).a)) :
    aax ⟨o, w, st, 9, m, id, ch, lv, wt⟩ e = some ((false, ()), (⟨o, w, st, 10, .nil, id, aae (e.rc (aaC st)).kids (aaY (e.prog (e.rc (aaC st))) (e.rc (aaC st)).pc).a, lv, wt⟩, (e.pt 2 (agN e.l (aaC st)) (wu (wi (aae (e.rc (aaC st)).kids (aaY (e.prog (e.rc (aaC st))) (e.rc (aaC st)).pc).a + 1)))).pr (aaC st) { e.rc (aaC st) with pc := wi ((e.rc (aaC st)).pc + 1), waiting := aae (e.rc (aaC st)).kids (aaY (e.prog (e.rc (aaC st))) (e.rc (aaC st)).pc).a }, ())) := by
  unfold aax
  simp only [hS.n, hS.a, hS.g, hT, and_self, if_true, amz hT, ajp hT, List.set_set, List.length_set]
  have hp' : ¬ ((aab e.recs (aaC st)).pc < 0 ∨ ((e.prog (aab e.recs (aaC st))).length : Int) ≤ (aab e.recs (aaC st)).pc) := hp
  have ha' : ¬ ((aaY (e.prog (aab e.recs (aaC st))) (aab e.recs (aaC st)).pc).a < 0 ∨ ((aab e.recs (aaC st)).kids.length : Int) ≤ (aaY (e.prog (aab e.recs (aaC st))) (aab e.recs (aaC st)).pc).a) := ha
  show _ = some ((false, ()), ((⟨o, w, st, 10, .nil, id, aae (aab e.recs (aaC st)).kids (aaY (e.prog (aab e.recs (aaC st))) (aab e.recs (aaC st)).pc).a, lv, wt⟩ : RunV MV), EnvP.pr (e.pt 2 (agN e.l (aaC st)) (wu (wi (aae (aab e.recs (aaC st)).kids (aaY (e.prog (aab e.recs (aaC st))) (aab e.recs (aaC st)).pc).a + 1)))) (aaC st) { aab e.recs (aaC st) with pc := wi ((aab e.recs (aaC st)).pc + 1), waiting := aae (aab e.recs (aaC st)).kids (aaY (e.prog (aab e.recs (aaC st))) (aab e.recs (aaC st)).pc).a }, ()))
  generalize aab e.recs (aaC st) = r at hp' ha' ⊢
  by_cases h1 : r.prog < 0
  · rw [ads (.inl h1)] at hp'; simp only [List.length_nil] at hp'; omega
  by_cases h2 : (e.c.progs.length : Int) ≤ r.prog
  · rw [ads (.inr h2)] at hp'; simp only [List.length_nil] at hp'; omega
  rw [ajI h1 h2] at hp' ha' ⊢
  rw [if_neg h1, if_neg h2, if_pos (show 0 ≤ r.prog ∧ r.prog < (e.c.progs.length : Int) by omega), if_pos (show 0 ≤ r.pc ∧ r.pc < ((atL [] e.c.progs r.prog).length : Int) by omega), if_pos (show 0 ≤ (aaY (atL [] e.c.progs r.prog) r.pc).a ∧ (aaY (atL [] e.c.progs r.prog) r.pc).a < (r.kids.length : Int) by omega)]
  rw [ahA, bnd, acz, bnd, aac, bnd]
  rfl
theorem aoG {α β : Type} {X : Option ((Bool × Unit) × (α × β × Unit))} : (X.bind fun r => some ((r.1.1, ()), (r.2.1, r.2.2.1, ()))) = X := by cases X <;> rfl
theorem alt (hS : SOk st) (hT : IsT e (aaC st)) (hc : e.c.tasks = (e.recs.length : Int)) (X : Option ((Bool × Unit) × (RunV MV × EnvP × Unit))) (a b c : Option ((Bool × Unit) × (RunV MV × EnvP × Unit))) :
    (if aaC st < 0 then a else if e.c.tasks ≤ aaC st then b else if (e.recs.length : Int) ≤ aaC st then c else X) = X := by
  have h1 := hT.1
  have h2 := hT.2
  rw [if_neg (by omega), if_neg (by omega), if_neg (by omega)]
theorem ahs (hS : SOk st) (hT : IsT e (aaC st)) (hc : e.c.tasks = (e.recs.length : Int)) (h : 4 ≤ ln ∧ ln ≤ 8) : aaF ⟨o0, w, st, ln, m, id, ch, lv, wt⟩ e = aaR ⟨o0, w, st, ln, m, id, ch, lv, wt⟩ e := by
  unfold aaF
  simp only [aaH, abi, o0, bnd, hS.n, hS.a, hS.g, if_true, Bool.false_eq_true, if_false, aoG, alt hS hT hc]
  rw [if_neg (by omega), if_neg (by omega), if_neg (by omega), if_neg (by omega), if_pos h.1, if_pos h.2]
theorem agw (hS : SOk st) (hT : IsT e (aaC st)) (hc : e.c.tasks = (e.recs.length : Int)) (h : 9 ≤ ln ∧ ln ≤ 15) : aaF ⟨o0, w, st, ln, m, id, ch, lv, wt⟩ e = aax ⟨o0, w, st, ln, m, id, ch, lv, wt⟩ e := by
  unfold aaF
  simp only [aaH, abi, o0, bnd, hS.n, hS.a, hS.g, if_true, Bool.false_eq_true, if_false, aoG, alt hS hT hc]
  rw [if_neg (by omega), if_neg (by omega), if_neg (by omega), if_neg (by omega), if_pos (show 4 ≤ ln by omega), if_neg (by omega), if_pos h.1, if_pos h.2]
theorem aeQ (hS : SOk st) (hT : IsT e (aaC st)) (hc : e.c.tasks = (e.recs.length : Int)) (h : 16 ≤ ln) : aaF ⟨o0, w, st, ln, m, id, ch, lv, wt⟩ e = aam ⟨o0, w, st, ln, m, id, ch, lv, wt⟩ e := by
  unfold aaF
  simp only [aaH, abi, o0, bnd, hS.n, hS.a, hS.g, if_true, Bool.false_eq_true, if_false, aoG, alt hS hT hc]
  rw [if_neg (by omega), if_neg (by omega), if_neg (by omega), if_neg (by omega), if_pos (show 4 ≤ ln by omega), if_neg (by omega), if_pos (show 9 ≤ ln by omega), if_neg (by omega)]
theorem ash (hS : SOk st) (hT : IsT e (aaC st)) (hc : e.c.tasks = (e.recs.length : Int)) {c : Int} (h : adj (e.rc (aaC st)) (e.prog (e.rc (aaC st))) = c) (hR : 0 ≤ aaC st ∧ aaC st < (e.recs.length : Int)) :
    aaF ⟨o0, w, st, 0, m, id, ch, lv, wt⟩ e = if c = 4 then aaR ⟨o0, w, st, 4, .alloc ⟨o0⟩, id, ch, lv, wt⟩ e else if c = 1 ∨ c = 2 ∨ c = 3 then aav ⟨o0, w, st, c, m, id, ch, lv, wt⟩ e else if c = 9 then aax ⟨o0, w, st, c, m, id, ch, lv, wt⟩ e else aam ⟨o0, w, st, c, m, id, ch, lv, wt⟩ e := by
  have hch := arw (x := ⟨⟨false, 0, 0⟩, w, st, 0, m, id, ch, lv, wt⟩) hS hR
  simp only [h] at hch
  have hv : c = 1 ∨ c = 16 ∨ c = 2 ∨ c = 4 ∨ c = 3 ∨ c = 9 := by
    rw [← h]
    unfold adj
    repeat' split
    all_goals simp
  unfold aaF
  simp only [aaH, abi, o0, bnd, hS.n, hS.a, hS.g, if_true, Bool.false_eq_true, if_false, aoG, alt hS hT hc, hch, adT]
  rcases hv with rfl | rfl | rfl | rfl | rfl | rfl <;> simp only [Int.reduceEq, Int.reduceLE, if_true, if_false, or_self, or_true, true_or, false_or, or_false]
end
end
end Go.Proofs.YtlcelajkhklkbaaGreat
